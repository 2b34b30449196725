/- Part I of a proof. -/
import Derived.Test.YtholoaojlcnacaaGreatDoorFtH
import Derived.Test.YtholoaojlcnacaaGreatDoorFtC
import Derived.Test.YtholoaojlcnacaaGreatDoorFtA
import Derived.Test.YtholoaojlcnacaaGreatDoorProg
import Derived.Test.YtholoaojlcnacaaGreatDoorFtD
import Derived.Shelf.Strings.BuilderK
import Derived.Shelf.Strings.BuilderRune
import Derived.Shelf.Strings.Repeat
import Derived.Shelf.Unicode.DecodeAny
import Derived.Ground.Names2Prog
import Derived.Shelf.SlGeneric
import Derived.Shelf.Sort.Plain
import Derived.Shelf.Slices.In.SortNone
import Derived.Shelf.Slices.CompactS
import Derived.Lib.RuneLoops
import Derived.WalkKit
import Derived.Laws.CopyRow
import Derived.Shelf.Spec.SlicesInsertGrow
set_option linter.unusedVariables false
set_option linter.unusedSimpArgs false
set_option linter.unusedSectionVars false
set_option maxRecDepth 100000
namespace Go.Proofs
open Go Av
theorem Un (a : Dat) (l : List Dat) : nth (a :: l) (Int.toNat 0) = a := rfl
theorem Uw (a b : Dat) (l : List Dat) : nth (a :: b :: l) (Int.toNat 1) = b := rfl
theorem ev_x (e : Exp) (env : Val) (x : Int) (hx : x ≠ 0) : JT 54 [JL e] env x (.d (JB zeroV)) x := by
 refine UD.co (k := false) (JI _ _ _) trivial ?_;have hb : (x != 0) = true := by simp [hx]
 generalize hz : zeroV = z;rw [JE, JA z];refine zz79 ?_;subst hz;exact rfl
theorem ev_1 (n : Int) (t : Str) (v : Val) (vs : List Val) (es : List Exp) (hv : okV v) (env : Val) : JT 54 [JL (.mk 1 n t (v :: vs) es)] env 0 (.d (JB v)) 0 := by
 refine UD.co (k := false) (JI _ _ _) trivial ?_;have hb : ((0 : Int) != 0) = false := rfl;have b1 : ((1 : Int) == 1) = true := rfl;have c55 := (JCd v hv).call trivial;have c121 := Jo.call trivial;have hl : J2 .i [(.int .i64 8, .fn (.func 172) [] []), (.int .i64 9, .fn (.func 173) [] []), (.int .i64 10, .fn (.func 174) [] []), (.int .i64 11, .fn (.func 175) [] [])] (.int .i64 1) = some none := rfl;rw [XI] at c121;rw [JE];rw [JA v] at c55 ⊢;simp only [Exp.op, Exp.int, Exp.text, Exp.value, Exp.args, Va, Vb];rw [JA v];refine zz79 ?_;refine JC rfl c121 trivial ?_;simp only [go_sem, hl, b1, b54_1, Un, Nat.reduceAdd, Nat.reduceEqDiff, Nat.reduceBEq, Nat.reduceLeDiff, reduceCtorEq, ↓reduceIte];refine ⟨rfl, sP, ?_⟩;refine wn c55 ?_;refine zz1 ?_;exact zf
theorem ev_A12 (n : Int) (t : Str) (vs : List Val) (p q : Exp) (env va vb : Val) (y1 y2 : Int) (hp : JT 54 [JL p] env 0 (.d (JB va)) y1) (hq : JT 54 [JL q] env (JG va y1) (.d (JB vb)) y2) :
  JT 54 [JL (.mk 12 n t vs [p, q])] env 0 (.d (JB (Zn 12 n (JF va y1) (JF vb y2) (JG vb y2)).1)) (Zn 12 n (JF va y1) (JF vb y2) (JG vb y2)).2 := by
 refine UD.co (k := false) (JI _ _ _) trivial ?_;have hb : ((0 : Int) != 0) = false := rfl;have n1 := (Jl p env va 0 y1 hp).to trivial;have n2 := (Jl q env vb (JG va y1) y2 hq).to trivial;have c130 := (JDZ (.mk 12 n t vs [p, q]) (JF va y1) (JF vb y2) env (JG vb y2)).to trivial;have c121 := Jo.call trivial;have hl : J2 .i [(.int .i64 8, .fn (.func 172) [] []), (.int .i64 9, .fn (.func 173) [] []), (.int .i64 10, .fn (.func 174) [] []), (.int .i64 11, .fn (.func 175) [] [])] (.int .i64 12) = some none := rfl;rw [XI] at c121;simp only [Exp.op, Exp.int] at c130;generalize Zn 12 n (JF va y1) (JF vb y2) (JG vb y2) = R at *;generalize JF va y1 = wa at *;generalize JF vb y2 = wb at *;generalize JG vb y2 = x2 at *;generalize JG va y1 = x1 at *;rw [JE] at c130 ⊢;simp only [Exp.op, Exp.int, Exp.text, Exp.value, Exp.args, Va, Vb] at c130 ⊢;rw [JE p] at n1 c130 ⊢;rw [JE q] at n2 c130 ⊢;rw [JA] at n1 n2;rw [JA wa, JA wb, JA R.1] at c130;rw [JA R.1];refine zz5 ?_;refine JC rfl c121 trivial ?_;refine zz6 ?_;refine ⟨rfl, ?_⟩;refine JQg ?_;refine JQh ?_;refine JQi ?_;refine JQj ?_;refine JQk ?_;refine JQl ?_;refine ⟨sP, wn n1 ?_⟩;refine ZU ?_;refine ⟨sP, wn n2 ?_⟩;refine ZU ?_;refine wn c130 ?_;refine Zj ?_;exact zf
theorem ev_A13 (n : Int) (t : Str) (vs : List Val) (p q : Exp) (env va vb : Val) (y1 y2 : Int) (hp : JT 54 [JL p] env 0 (.d (JB va)) y1) (hq : JT 54 [JL q] env (JG va y1) (.d (JB vb)) y2) :
  JT 54 [JL (.mk 13 n t vs [p, q])] env 0 (.d (JB (Zn 13 n (JF va y1) (JF vb y2) (JG vb y2)).1)) (Zn 13 n (JF va y1) (JF vb y2) (JG vb y2)).2 := by
 refine UD.co (k := false) (JI _ _ _) trivial ?_;have hb : ((0 : Int) != 0) = false := rfl;have n1 := (Jl p env va 0 y1 hp).to trivial;have n2 := (Jl q env vb (JG va y1) y2 hq).to trivial;have c130 := (JDZ (.mk 13 n t vs [p, q]) (JF va y1) (JF vb y2) env (JG vb y2)).to trivial;have c121 := Jo.call trivial;have hl : J2 .i [(.int .i64 8, .fn (.func 172) [] []), (.int .i64 9, .fn (.func 173) [] []), (.int .i64 10, .fn (.func 174) [] []), (.int .i64 11, .fn (.func 175) [] [])] (.int .i64 13) = some none := rfl;rw [XI] at c121;simp only [Exp.op, Exp.int] at c130;generalize Zn 13 n (JF va y1) (JF vb y2) (JG vb y2) = R at *;generalize JF va y1 = wa at *;generalize JF vb y2 = wb at *;generalize JG vb y2 = x2 at *;generalize JG va y1 = x1 at *;rw [JE] at c130 ⊢;simp only [Exp.op, Exp.int, Exp.text, Exp.value, Exp.args, Va, Vb] at c130 ⊢;rw [JE p] at n1 c130 ⊢;rw [JE q] at n2 c130 ⊢;rw [JA] at n1 n2;rw [JA wa, JA wb, JA R.1] at c130;rw [JA R.1];refine zz5 ?_;refine JC rfl c121 trivial ?_;refine zz6 ?_;refine ⟨rfl, ?_⟩;refine JQg ?_;refine JQh ?_;refine JQi ?_;refine JQj ?_;refine JQk ?_;refine JQl ?_;refine ⟨sP, wn n1 ?_⟩;refine ZU ?_;refine ⟨sP, wn n2 ?_⟩;refine ZU ?_;refine wn c130 ?_;refine Zj ?_;exact zf
theorem ev_A14 (n : Int) (t : Str) (vs : List Val) (p q : Exp) (env va vb : Val) (y1 y2 : Int) (hp : JT 54 [JL p] env 0 (.d (JB va)) y1) (hq : JT 54 [JL q] env (JG va y1) (.d (JB vb)) y2) :
  JT 54 [JL (.mk 14 n t vs [p, q])] env 0 (.d (JB (Zn 14 n (JF va y1) (JF vb y2) (JG vb y2)).1)) (Zn 14 n (JF va y1) (JF vb y2) (JG vb y2)).2 := by
 refine UD.co (k := false) (JI _ _ _) trivial ?_;have hb : ((0 : Int) != 0) = false := rfl;have n1 := (Jl p env va 0 y1 hp).to trivial;have n2 := (Jl q env vb (JG va y1) y2 hq).to trivial;have c130 := (JDZ (.mk 14 n t vs [p, q]) (JF va y1) (JF vb y2) env (JG vb y2)).to trivial;have c121 := Jo.call trivial;have hl : J2 .i [(.int .i64 8, .fn (.func 172) [] []), (.int .i64 9, .fn (.func 173) [] []), (.int .i64 10, .fn (.func 174) [] []), (.int .i64 11, .fn (.func 175) [] [])] (.int .i64 14) = some none := rfl;rw [XI] at c121;simp only [Exp.op, Exp.int] at c130;generalize Zn 14 n (JF va y1) (JF vb y2) (JG vb y2) = R at *;generalize JF va y1 = wa at *;generalize JF vb y2 = wb at *;generalize JG vb y2 = x2 at *;generalize JG va y1 = x1 at *;rw [JE] at c130 ⊢;simp only [Exp.op, Exp.int, Exp.text, Exp.value, Exp.args, Va, Vb] at c130 ⊢;rw [JE p] at n1 c130 ⊢;rw [JE q] at n2 c130 ⊢;rw [JA] at n1 n2;rw [JA wa, JA wb, JA R.1] at c130;rw [JA R.1];refine zz5 ?_;refine JC rfl c121 trivial ?_;refine zz6 ?_;refine ⟨rfl, ?_⟩;refine JQg ?_;refine JQh ?_;refine JQi ?_;refine JQj ?_;refine JQk ?_;refine zz80 ?_;refine JQl ?_;refine ⟨sP, wn n1 ?_⟩;refine ZU ?_;refine ⟨sP, wn n2 ?_⟩;refine ZU ?_;refine wn c130 ?_;refine Zj ?_;exact zf
theorem ev_A15 (n : Int) (t : Str) (vs : List Val) (p q : Exp) (env va vb : Val) (y1 y2 : Int) (hp : JT 54 [JL p] env 0 (.d (JB va)) y1) (hq : JT 54 [JL q] env (JG va y1) (.d (JB vb)) y2) :
  JT 54 [JL (.mk 15 n t vs [p, q])] env 0 (.d (JB (Zn 15 n (JF va y1) (JF vb y2) (JG vb y2)).1)) (Zn 15 n (JF va y1) (JF vb y2) (JG vb y2)).2 := by
 refine UD.co (k := false) (JI _ _ _) trivial ?_;have hb : ((0 : Int) != 0) = false := rfl;have n1 := (Jl p env va 0 y1 hp).to trivial;have n2 := (Jl q env vb (JG va y1) y2 hq).to trivial;have c130 := (JDZ (.mk 15 n t vs [p, q]) (JF va y1) (JF vb y2) env (JG vb y2)).to trivial;have c121 := Jo.call trivial;have hl : J2 .i [(.int .i64 8, .fn (.func 172) [] []), (.int .i64 9, .fn (.func 173) [] []), (.int .i64 10, .fn (.func 174) [] []), (.int .i64 11, .fn (.func 175) [] [])] (.int .i64 15) = some none := rfl;rw [XI] at c121;simp only [Exp.op, Exp.int] at c130;generalize Zn 15 n (JF va y1) (JF vb y2) (JG vb y2) = R at *;generalize JF va y1 = wa at *;generalize JF vb y2 = wb at *;generalize JG vb y2 = x2 at *;generalize JG va y1 = x1 at *;rw [JE] at c130 ⊢;simp only [Exp.op, Exp.int, Exp.text, Exp.value, Exp.args, Va, Vb] at c130 ⊢;rw [JE p] at n1 c130 ⊢;rw [JE q] at n2 c130 ⊢;rw [JA] at n1 n2;rw [JA wa, JA wb, JA R.1] at c130;rw [JA R.1];refine zz5 ?_;refine JC rfl c121 trivial ?_;refine zz6 ?_;refine ⟨rfl, ?_⟩;refine JQg ?_;refine JQh ?_;refine JQi ?_;refine JQj ?_;refine JQk ?_;refine zz80 ?_;refine JQl ?_;refine ⟨sP, wn n1 ?_⟩;refine ZU ?_;refine ⟨sP, wn n2 ?_⟩;refine ZU ?_;refine wn c130 ?_;refine Zj ?_;exact zf
def JAn (op n : Int) : Bool := if op == 8 then decide (n < 0) else if op == 9 then decide (n ≤ 0) else if op == 10 then decide (n > 0) else decide (n ≥ 0)
theorem ev_R8 (n : Int) (t : Str) (vs : List Val) (p q : Exp) (env va vb : Val) (y1 y2 : Int) (hp : JT 54 [JL p] env 0 (.d (JB va)) y1) (hq : JT 54 [JL q] env (JG va y1) (.d (JB vb)) y2) :
  JT 54 [JL (.mk 8 n t vs [p, q])] env 0 (.d (JB (UV (JAn 8 (JAm (JF va y1) (JF vb y2) (JG vb y2)).1)))) (JAm (JF va y1) (JF vb y2) (JG vb y2)).2 := by
 refine UD.co (k := false) (JI _ _ _) trivial ?_;have hb : ((0 : Int) != 0) = false := rfl;have n1 := (Jl p env va 0 y1 hp).to trivial;have n2 := (Jl q env vb (JG va y1) y2 hq).to trivial;have c124 := (JDa (JF va y1) (JF vb y2) env (JG vb y2)).to trivial;have c121 := Jo.call trivial;have hl : J2 .i [(.int .i64 8, .fn (.func 172) [] []), (.int .i64 9, .fn (.func 173) [] []), (.int .i64 10, .fn (.func 174) [] []), (.int .i64 11, .fn (.func 175) [] [])] (.int .i64 8) = some (some (.fn (.func 172) [] [])) := rfl;rw [XI] at c121;generalize JAm (JF va y1) (JF vb y2) (JG vb y2) = R at *;generalize JF va y1 = wa at *;generalize JF vb y2 = wb at *;generalize JG vb y2 = x2 at *;generalize JG va y1 = x1 at *;have cR := (JRc R.1).call trivial;have cB := (U5 (JAn 8 R.1)).call trivial;have hr : JAn 8 R.1 = decide (R.1 < 0) := rfl;rw [← hr] at cR;generalize JAn 8 R.1 = B at *;generalize UV B = W at *;rw [JE];simp only [Exp.op, Exp.int, Exp.text, Exp.value, Exp.args, Va, Vb];rw [JE p] at n1 ⊢;rw [JE q] at n2 ⊢;rw [JA] at n1 n2 cB ⊢;rw [JA wa, JA wb] at c124;refine zz5 ?_;refine JC rfl c121 trivial ?_;refine JQm ?_;refine ⟨rfl, ?_⟩;refine JQn ?_;refine ⟨sP, wn n1 ?_⟩;refine ZU ?_;refine ⟨sP, wn n2 ?_⟩;refine ZU ?_;refine wn c124 ?_;refine Zj ?_;refine wn cR ?_;refine Zj ?_;refine wn cB ?_;refine Zj ?_;exact zf
theorem ev_R9 (n : Int) (t : Str) (vs : List Val) (p q : Exp) (env va vb : Val) (y1 y2 : Int) (hp : JT 54 [JL p] env 0 (.d (JB va)) y1) (hq : JT 54 [JL q] env (JG va y1) (.d (JB vb)) y2) :
  JT 54 [JL (.mk 9 n t vs [p, q])] env 0 (.d (JB (UV (JAn 9 (JAm (JF va y1) (JF vb y2) (JG vb y2)).1)))) (JAm (JF va y1) (JF vb y2) (JG vb y2)).2 := by
 refine UD.co (k := false) (JI _ _ _) trivial ?_;have hb : ((0 : Int) != 0) = false := rfl;have n1 := (Jl p env va 0 y1 hp).to trivial;have n2 := (Jl q env vb (JG va y1) y2 hq).to trivial;have c124 := (JDa (JF va y1) (JF vb y2) env (JG vb y2)).to trivial;have c121 := Jo.call trivial;have hl : J2 .i [(.int .i64 8, .fn (.func 172) [] []), (.int .i64 9, .fn (.func 173) [] []), (.int .i64 10, .fn (.func 174) [] []), (.int .i64 11, .fn (.func 175) [] [])] (.int .i64 9) = some (some (.fn (.func 173) [] [])) := rfl;rw [XI] at c121;generalize JAm (JF va y1) (JF vb y2) (JG vb y2) = R at *;generalize JF va y1 = wa at *;generalize JF vb y2 = wb at *;generalize JG vb y2 = x2 at *;generalize JG va y1 = x1 at *;have cR := (JRd R.1).call trivial;have cB := (U5 (JAn 9 R.1)).call trivial;have hr : JAn 9 R.1 = decide (R.1 ≤ 0) := rfl;rw [← hr] at cR;generalize JAn 9 R.1 = B at *;generalize UV B = W at *;rw [JE];simp only [Exp.op, Exp.int, Exp.text, Exp.value, Exp.args, Va, Vb];rw [JE p] at n1 ⊢;rw [JE q] at n2 ⊢;rw [JA] at n1 n2 cB ⊢;rw [JA wa, JA wb] at c124;refine zz5 ?_;refine JC rfl c121 trivial ?_;refine JQm ?_;refine ⟨rfl, ?_⟩;refine JQn ?_;refine ⟨sP, wn n1 ?_⟩;refine ZU ?_;refine ⟨sP, wn n2 ?_⟩;refine ZU ?_;refine wn c124 ?_;refine Zj ?_;refine wn cR ?_;refine Zj ?_;refine wn cB ?_;refine Zj ?_;exact zf
theorem ev_R10 (n : Int) (t : Str) (vs : List Val) (p q : Exp) (env va vb : Val) (y1 y2 : Int) (hp : JT 54 [JL p] env 0 (.d (JB va)) y1) (hq : JT 54 [JL q] env (JG va y1) (.d (JB vb)) y2) :
  JT 54 [JL (.mk 10 n t vs [p, q])] env 0 (.d (JB (UV (JAn 10 (JAm (JF va y1) (JF vb y2) (JG vb y2)).1)))) (JAm (JF va y1) (JF vb y2) (JG vb y2)).2 := by
 refine UD.co (k := false) (JI _ _ _) trivial ?_;have hb : ((0 : Int) != 0) = false := rfl;have n1 := (Jl p env va 0 y1 hp).to trivial;have n2 := (Jl q env vb (JG va y1) y2 hq).to trivial;have c124 := (JDa (JF va y1) (JF vb y2) env (JG vb y2)).to trivial;have c121 := Jo.call trivial;have hl : J2 .i [(.int .i64 8, .fn (.func 172) [] []), (.int .i64 9, .fn (.func 173) [] []), (.int .i64 10, .fn (.func 174) [] []), (.int .i64 11, .fn (.func 175) [] [])] (.int .i64 10) = some (some (.fn (.func 174) [] [])) := rfl;rw [XI] at c121;generalize JAm (JF va y1) (JF vb y2) (JG vb y2) = R at *;generalize JF va y1 = wa at *;generalize JF vb y2 = wb at *;generalize JG vb y2 = x2 at *;generalize JG va y1 = x1 at *;have cR := (JRe R.1).call trivial;have cB := (U5 (JAn 10 R.1)).call trivial;have hr : JAn 10 R.1 = decide (R.1 > 0) := rfl;rw [← hr] at cR;generalize JAn 10 R.1 = B at *;generalize UV B = W at *;rw [JE];simp only [Exp.op, Exp.int, Exp.text, Exp.value, Exp.args, Va, Vb];rw [JE p] at n1 ⊢;rw [JE q] at n2 ⊢;rw [JA] at n1 n2 cB ⊢;rw [JA wa, JA wb] at c124;refine zz5 ?_;refine JC rfl c121 trivial ?_;refine JQm ?_;refine ⟨rfl, ?_⟩;refine JQn ?_;refine ⟨sP, wn n1 ?_⟩;refine ZU ?_;refine ⟨sP, wn n2 ?_⟩;refine ZU ?_;refine wn c124 ?_;refine Zj ?_;refine wn cR ?_;refine Zj ?_;refine wn cB ?_;refine Zj ?_;exact zf
theorem ev_R11 (n : Int) (t : Str) (vs : List Val) (p q : Exp) (env va vb : Val) (y1 y2 : Int) (hp : JT 54 [JL p] env 0 (.d (JB va)) y1) (hq : JT 54 [JL q] env (JG va y1) (.d (JB vb)) y2) :
  JT 54 [JL (.mk 11 n t vs [p, q])] env 0 (.d (JB (UV (JAn 11 (JAm (JF va y1) (JF vb y2) (JG vb y2)).1)))) (JAm (JF va y1) (JF vb y2) (JG vb y2)).2 := by
 refine UD.co (k := false) (JI _ _ _) trivial ?_;have hb : ((0 : Int) != 0) = false := rfl;have n1 := (Jl p env va 0 y1 hp).to trivial;have n2 := (Jl q env vb (JG va y1) y2 hq).to trivial;have c124 := (JDa (JF va y1) (JF vb y2) env (JG vb y2)).to trivial;have c121 := Jo.call trivial;have hl : J2 .i [(.int .i64 8, .fn (.func 172) [] []), (.int .i64 9, .fn (.func 173) [] []), (.int .i64 10, .fn (.func 174) [] []), (.int .i64 11, .fn (.func 175) [] [])] (.int .i64 11) = some (some (.fn (.func 175) [] [])) := rfl;rw [XI] at c121;generalize JAm (JF va y1) (JF vb y2) (JG vb y2) = R at *;generalize JF va y1 = wa at *;generalize JF vb y2 = wb at *;generalize JG vb y2 = x2 at *;generalize JG va y1 = x1 at *;have cR := (JRf R.1).call trivial;have cB := (U5 (JAn 11 R.1)).call trivial;have hr : JAn 11 R.1 = decide (R.1 ≥ 0) := rfl;rw [← hr] at cR;generalize JAn 11 R.1 = B at *;generalize UV B = W at *;rw [JE];simp only [Exp.op, Exp.int, Exp.text, Exp.value, Exp.args, Va, Vb];rw [JE p] at n1 ⊢;rw [JE q] at n2 ⊢;rw [JA] at n1 n2 cB ⊢;rw [JA wa, JA wb] at c124;refine zz5 ?_;refine JC rfl c121 trivial ?_;refine JQm ?_;refine ⟨rfl, ?_⟩;refine JQn ?_;refine ⟨sP, wn n1 ?_⟩;refine ZU ?_;refine ⟨sP, wn n2 ?_⟩;refine ZU ?_;refine wn c124 ?_;refine Zj ?_;refine wn cR ?_;refine Zj ?_;refine wn cB ?_;refine Zj ?_;exact zf
def YK (v : Val) (y : Int) : Int := if (JG v y == 0) && ((JF v y).kind != 1) then UI (JG v y) 18 else JG v y
def ZH (v : Val) (y : Int) : Bool := (YK v y == 0) && ((JF v y).int == 1)
theorem YS (e : Exp) (env v : Val) (x y : Int) (h : JT 54 [JL e] env x (.d (JB v)) y) : JT 128 [JL e] env x (.d (.bool (ZH v y))) (YK v y) := by
 refine ok128.co (k := false) (JI _ _ _) trivial ?_;have c122 := (Jl e env v x y h).to trivial;have c126 := (J0 env (JG v y) 18).to trivial;unfold ZH;generalize hT : YK v y = T;unfold YK at hT;generalize JF v y = w at *;generalize JG v y = z at *;rw [JE] at c122 ⊢;rw [JA w] at c122;simp only [go_sem, ir128, mC, Va, Vb, simprocAttr];refine wn c122 ?_;refine zz1 ?_;refine sq (w.kind != 1) ?_ ?_
 ·exact zz trivial
 refine zz ?_;apply ik <;> intro h1
 ·rw [if_pos h1] at hT;rw [hT] at c126;refine wn c126 ?_;refine zz1 ?_;refine sq (w.int == 1) ?_ ?_
  ·exact zz trivial
  refine zz ?_;exact zf
 ·rw [if_neg (nF h1)] at hT;subst hT
  try refine zz1 ?_
  refine sq (w.int == 1) ?_ ?_
  ·exact zz trivial
  refine zz ?_;exact zf
def JBC (a b : Val) (x : Int) : Bool × Int :=
 if x != 0 then (false, x) else if isN a && isN b then (((JCi (ofN a) (ofN b)).2 == 0) && ((JCi (ofN a) (ofN b)).1 == 0), if (JCi (ofN a) (ofN b)).2 != 0 then UI x (JCi (ofN a) (ofN b)).2 else x)
 else if a.kind != b.kind then (false, UI x 18) else (JA7 a b == 0, x)
theorem JGf (a b env : Val) (x : Int) (ha : okV a) (hb : okV b) : JT 129 [JB a, JB b] env x (.d (.bool (JBC a b x).1)) (JBC a b x).2 := by
 refine ok129.co (k := false) (JI _ _ _) trivial ?_;have c18 := (J0 env x 18).to trivial;have ca := (Yq a).call trivial;have cb := (Yq b).call trivial;have oa := (Xy a).call trivial;have ob := (Xy b).call trivial;have cf := fun y => (J0 env x y).to trivial
 have h23 := (JNy (ofN a) (ofN b)).call (by simp [JU]);have c16 := (walk16 a b ha hb).call trivial;generalize hT : JBC a b x = T;unfold JBC at hT;rw [JA] at ca cb oa ob;rw [JA, JA] at c16;rw [JA a, JA b];simp only [Jn] at oa ob h23;simp only [go_sem, ir129, mC, Va, Vb, simprocAttr];apply ik <;> intro h0
 ·rw [if_pos h0] at hT;rw [← hT]
  try exact ⟨rfl, rfl⟩
 rw [if_neg (nF h0)] at hT;refine wn ca ?_;refine zz1 ?_;refine sq (isN b) ?_ ?_
 ·refine zz ?_;refine wc cb trivial
 refine zz ?_;apply ik <;> intro h1
 ·rw [if_pos h1] at hT;generalize JCi (ofN a) (ofN b) = R at *;rw [← hT];refine JC rfl oa trivial ?_;refine zz ?_;refine JC rfl ob trivial ?_;refine zz ?_;refine JC rfl h23 trivial ?_;refine zz ?_;refine ⟨rfl, fun h2 => ?_, fun h2 => ?_⟩
  ·rw [if_pos h2];refine wn (cf R.2) ?_;refine zz1 ?_;refine sq (R.1 == 0) ?_ ?_
   ·exact zz trivial
   refine zz ?_;exact zf
  ·rw [if_neg (nF h2)]
   try refine zz1 ?_
   refine sq (R.1 == 0) ?_ ?_
   ·exact zz trivial
   refine zz ?_;exact zf
 rw [if_neg (nF h1)] at hT
 try refine zz ?_
 apply ik <;> intro h2
 ·rw [if_pos h2] at hT;rw [← hT];refine wn c18 ?_;refine zz1 ?_;exact zf
 rw [if_neg (nF h2)] at hT;rw [← hT]
 try refine zz ?_
 refine wn c16 ?_;refine zz1 ?_;exact zf
end Go.Proofs
namespace Go.Proofs
open Go Av
open Av.Y
def ir37 : Ic := q (.reg (oN 2 v6<|N))<|q (R (om 3 0<|oo 4 (.bld v6 [(0,1,i 4),(3,1,t 3)])<|oS 6 2 4<|N) [0,3,4])<|.ret
theorem ok37 : FT 37 5 ir37 [.cell 2 (some 6)] := .o Tryz.func37
end Go.Proofs
namespace Go.Proofs
open Go Av
theorem YT {v : Val} (h : fits (JB v)) : v.text.length ≤ 68719476736 ∧ v.list.length ≤ 68719476736 ∧ v.fields.length ≤ 68719476736 := by
 rw [JA] at h;simp only [fits, XL, Vc, and_true] at h;exact ⟨h.2.2.2.1, h.2.2.2.2.1.1, h.2.2.2.2.2.1⟩
theorem Yy (s : Str) : PT 37 [.str s] (.d (JB (.mk 4 0 0 s [] []))) := by
 refine ok37.pc ?_;simp only [go_sem, ir37, simprocAttr];rfl
def JGg (a b : Val) (x : Int) : Val × Int :=
 if x != 0 then (zeroV, x) else if (a.kind != 4) || (b.kind != 4) then (zeroV, UI x 18)
 else if decide (((a.text.length : Nat) : Int) + ((b.text.length : Nat) : Int) > 1024) then (zeroV, UI x 5) else (.mk 4 0 0 (a.text ++ b.text) [] [], x)
theorem JRg (a b env : Val) (x : Int) : JT 131 [JB a, JB b] env x (.d (JB (JGg a b x).1)) (JGg a b x).2 := by
 refine Con.Ju ok131.has fun hfit => ?_
 have fa := (YT (hfit (JB a) sP)).1;have fb := (YT (hfit (JB b) sP)).1;refine ok131.co (k := false) (JI _ _ _) trivial ?_;have c18 := (J0 env x 18).to trivial;have c5 := (J0 env x 5).to trivial;have c37 := (Yy (a.text ++ b.text)).call trivial;have hw : IntKind.i64.wrap (((a.text.length : Nat) : Int) + ((b.text.length : Nat) : Int)) = ((a.text.length : Nat) : Int) + ((b.text.length : Nat) : Int) := wrap64 oM oM;generalize hT : JGg a b x = T;unfold JGg at hT;rw [JA a, JA b, JA T.1];simp only [go_sem, ir131, mC, Va, Vb, simprocAttr];apply ik <;> intro h0
 ·rw [if_pos h0] at hT;rw [← hT]
  try exact ⟨rfl, rfl⟩
 rw [if_neg (nF h0)] at hT
 try refine zz1 ?_
 refine sq (b.kind != 4) ?_ ?_
 ·exact zz trivial
 refine zz ?_;apply ik <;> intro h1
 ·rw [if_pos h1] at hT;rw [← hT];refine wn c18 ?_;generalize zeroV = z at *;rw [JA];refine zz1 ?_;exact zf
 rw [if_neg (nF h1)] at hT
 try refine zz ?_
 rw [hw];apply ik <;> intro h2
 ·rw [if_pos h2] at hT;rw [← hT];refine wn c5 ?_;generalize zeroV = z at *;rw [JA];refine zz1 ?_;exact zf
 rw [if_neg (nF h2)] at hT;rw [← hT];simp only [decide_eq_false_iff_not] at h2
 try refine zz ?_
 refine ⟨by rw [Vg]; omega, wn c37 ?_⟩;simp only [JA];refine zz1 ?_;exact zf
def JFL (l : List (Int × Int)) : Int := l.foldl (fun s p => if p.2 > s then p.2 else s) 0
def JCj (l : List (Int × Int)) : (Int × Int) × Int := if decide (((l.length : Nat) : Int) > 256) then ((0, 0), 9) else if Uv l != 0 then ((0, 0), Uv l) else JH1 l (JFL l)
theorem JRh {l : List (Int × Int)} (h : ∀ p ∈ l, 0 ≤ p.2 ∧ p.2 ≤ 12) : 0 ≤ JFL l ∧ JFL l ≤ 12 := by
 unfold JFL;have : ∀ (l : List (Int × Int)) (s : Int), (∀ p ∈ l, 0 ≤ p.2 ∧ p.2 ≤ 12) → 0 ≤ s → s ≤ 12 → 0 ≤ l.foldl (fun s p => if p.2 > s then p.2 else s) s ∧ l.foldl (fun s p => if p.2 > s then p.2 else s) s ≤ 12 := by
  intro l
  induction l with
  | nil => intro s _ h0 h1; exact ⟨h0, h1⟩
  | cons p r ih =>
   intro s h h0 h1;have hp := h p Vh;rw [List.foldl_cons];refine ih _ (fun q hq => h q (Vn _ hq)) ?_ ?_ <;> split <;> omega
 exact this l 0 h oM oM
theorem JRi (l : List (Int × Int)) (hl : l.length ≤ 68719476736) : PT 180 [.list 2 (l.map Jn)] (.tup [.d (Jn (JCj l).1), .d (.int .i64 (JCj l).2)]) := by
 refine ok180.pc ?_;have c59 := (JCg l hl).call trivial;generalize hT : JCj l = T;unfold JCj at hT;simp only [go_sem, ir180, Vc, simprocAttr];apply ik <;> intro h
 ·rw [if_pos h] at hT;rw [← hT];rfl
 rw [if_neg (nF h)] at hT;simp only [decide_eq_false_iff_not] at h;refine wn c59 ?_;refine zz7 ?_;apply ik <;> intro h1
 ·rw [if_pos h1] at hT;rw [← hT];rfl
 rw [if_neg (nF h1)] at hT;simp only [bne_eq_false_iff_eq] at h1;have hv := JBz h1;have hp : ∀ p ∈ l, 0 ≤ p.2 ∧ p.2 ≤ 12 := fun p hp => ⟨(Xl (hv p hp)).1, (Xl (hv p hp)).2.1⟩
 obtain ⟨m0, m1⟩ := JRh hp;have c60 := (JNx l (JFL l) hl hp m0 m1).call (by simp [JU]);rw [hT] at c60
 try refine zz7 ?_
 refine JJ (fun n s => ∃ k : Nat, k ≤ l.length ∧ n = l.length - k ∧
  s = ⟨[(0, .d (.list 2 (l.map Jn))), (2, .ref 2 0), (5, .d (.int .i64 (JFL (l.take k)))), (18, .d (.list 2 (l.map Jn))), (19, .d (.int .i64 l.length)), (20, .d (.int .i64 k))], [(2, .box [.d (.int .i64 0), .d (.int .i64 0)])]⟩) ?_ ?_
 ·exact ⟨_, _, Wk.refl _, 0, Nat.zero_le _, rfl, rfl⟩
 ·rintro n s ⟨k, hk, rfl, rfl⟩;by_cases hlt : k < l.length
  ·have hx := JEX hlt;have hd := dT hlt;refine zz8 ?_;refine ⟨oM, l.length - (k + 1), _, oM, Wk.less ?_, k + 1, oM, rfl, rfl⟩;have : JFL (l.take (k + 1)) = if l[k].2 > JFL (l.take k) then l[k].2 else JFL (l.take k) := by
    rw [List.take_succ_eq_append_getElem hlt];unfold JFL;rw [List.foldl_append];rfl
   simp only [go_sem, this, Jj k oM, simprocAttr]
  ·have hd := dF hlt;obtain rfl : k = l.length := oM;refine JGF ?_;refine wn c60 ?_;exact JIy trivial
end Go.Proofs
namespace Go.Proofs
open Go Av
open Av.Y
def ir232 : Ic := q (R (ox 1 0<|ok 2 (.k .nilFn)<|N) [0,2])<|q (R (oo 3 (.fnv (.func 286) [] [t 1])<|om 2 3<|N) [1,3])<|.ret
theorem ok232 : FT 232 4 ir232 [.tmp 2] := .o Tryz.func232
def ir286 : Ic := q (.reg (oz 3 0<|N))<|D (.block 0<|.loop (q (q (R (om 6 3<|ol 7 1<|oj 8 7<|ot 9 .lss 6 8<|N) [6,7,8])<|D (I 9 S (E 0)) [9])<|D (.block 1<|q (R (ol 11 1<|om 12 3<|oo 13 (.sls (t 11) (some (t 12)) none)<|cl 14 287 [t 13]<|om 10 14<|oe 15 10 0<|oe 16 10 1<|om 4 15<|om 5 16<|N) [11,12,13,14,10,15,16])<|q (q (R (om 17 4<|ob 18 .eql (t 17) (.k (.int .i32 65533))<|om 19 18<|.sc 19 true (om 20 5<|oi 21 .leq 20 1<|N) (t 21) 22 (om 23 22<|.sc 23 false (om 24 0<|om 25 3<|om 26 4<|.call (some 27) (.dyn (t 24)) [t 25,t 26] (og 28 27<|N)) (t 28) 29 N)) [4,17,18,19,22,23])<|D (I 29 .ret S) [29])<|R (om 30 3<|om 31 5<|ot 32 .add 30 31<|om 3 32<|N) [5,30,31,32]) [])) [0,3,9,11,10,4,5]
theorem ok286 : FT 286 33 ir286 [] := .o Tryz.func286
def JJU : Ic := R (om 6 13<|N) [2,3,11,12,13]
def JGh : Ic := D (.block 1<|R (ol 14 4<|om 15 6<|oo 16 (.cvi .i64 (t 15))<|oo 17 (.bls 1 [t 16])<|oo 18 (.app 1 (t 14) (t 17))<|os 4 18<|N) [4,6,14,15,16,17,18]) [4,6,14,15,16,17,18]
noncomputable def JOF : Ic := q (.reg (ok 2 (.k (.nil 1))<|oz 3 0<|N))<|q (q (R (om 7 0<|cl 8 160 [t 7]<|og 9 8<|N) [7,8])<|D (I 9 (q (R (ok 2 (.k (.nil 1))<|oz 3 16<|N) [0,9])<|.ret) S) [9])<|q (.reg (oN 4 [.nil 1]<|N))<|q (q (R (om 10 0<|cl 11 232 [t 10]<|N) [0,10])<|D (.block 0<|D (.rng (t 11) 20 32 #[12,13] (Xs (U3 Tryz.f184) [1,1,1,0,1,0,0]) (Xs (U3 Tryz.f184) [1,1,1,0,1,0,1]) JJU JGh) [2,3,11]) [2,3,11])<|q (R (ol 19 4<|om 2 19<|oz 3 0<|N) [4,19])<|.ret
theorem ok184 : FT 184 20 JOF [.tmp 2, .tmp 3] := .o Tryz.func184
def ir132 : Ic := q (R (ox 5 1<|ox 6 2<|ox 7 3<|oN 8 v6<|N) [1,2,3])<|q (D (.block 0<|q (R (om 16 0<|oc 17 16<|of 18 17 6<|ol 19 18<|oi 20 .neq 19 0<|om 15 20<|N) [16,17,18,19,20])<|I 15 (q (R (oo 21 (.bld v6 [])<|oS 6 8 21<|N) [0,5,6,7,15,21])<|.ret) (q (R (of 23 5 0<|ol 24 23<|oi 25 .neq 24 4<|om 26 25<|.sc 26 false (of 27 6 0<|ol 28 27<|oi 29 .neq 28 2<|N) (t 29) 30 (om 31 30<|.sc 31 false (of 32 7 0<|ol 33 32<|oi 34 .neq 33 2<|N) (t 34) 35 (om 22 35<|N))) [15,23,24,25,26,30,31,35])<|D (I 22 (q (R (om 36 0<|cl 37 126 [t 36,i 18]<|oS 6 8 37<|N) [0,5,6,7,22,36,37])<|.ret) S) [22])) [])<|q (R (of 39 5 3<|ol 40 39<|cl 41 184 [t 40]<|om 38 41<|oe 42 38 0<|oe 43 38 1<|om 9 42<|om 10 43<|N) [5,39,40,41,38,42,43])<|q (D (.block 1<|q (R (om 45 10<|oi 46 .neq 45 0<|om 44 46<|N) [10,45,46])<|I 44 (q (R (om 47 0<|cl 48 126 [t 47,i 16]<|oS 6 8 48<|N) [0,6,7,9,44,47,48])<|.ret) (q (R (of 50 6 1<|ol 51 50<|oi 52 .lss 51 0<|om 53 52<|.sc 53 false (of 54 6 1<|ol 55 54<|of 56 7 1<|ol 57 56<|ot 58 .gtr 55 57<|N) (t 58) 59 (om 49 59<|N)) [44,50,51,52,53,59])<|D (I 49 (q (R (om 60 0<|cl 61 126 [t 60,i 2]<|oS 6 8 61<|N) [0,6,7,9,49,60,61])<|.ret) S) [0,49])) [])<|q (R (of 62 6 1<|ol 63 62<|om 64 9<|oh 65 64<|oo 66 (.mn (t 63) (t 65))<|of 67 7 1<|ol 68 67<|om 69 9<|oh 70 69<|oo 71 (.mn (t 68) (t 70))<|om 11 66<|om 12 71<|N) [6,7,62,63,64,65,66,67,68,69,70,71])<|q (R (om 73 9<|om 74 11<|om 75 12<|oo 76 (.slc 1 (t 73) (some (t 74)) (some (t 75)) none)<|cl 77 185 [t 76]<|om 72 77<|oe 78 72 0<|oe 79 72 1<|om 13 78<|om 14 79<|N) [9,11,12,73,74,75,76,77,72,78,79,14])<|q (R (om 80 13<|cl 81 37 [t 80]<|oS 6 8 81<|N) [13,80,81])<|.ret
theorem ok132 : FT 132 82 ir132 [.cell 8 (some 6)] := .o Tryz.func132
def ir186 : Ic := q (R (ox 1 0<|oN 2 [.int .i64 0,.int .i64 0]<|oz 3 0<|N) [0,3])<|q (q (R (oL 5 2 1<|cl 6 21 [t 5]<|om 4 6<|N) [5,6])<|q (R (om 7 4<|oi 8 .neq 7 0<|N) [7])<|D (I 8 (q (R (oo 9 (.bld [.int .i64 0,.int .i64 0] [])<|om 10 4<|oS 2 2 9<|om 3 10<|N) [1,4,8,9,10])<|.ret) S) [4,8])<|q (R (of 11 1 0<|ol 12 11<|oo 13 (.neg .i64 (t 12))<|of 14 1 1<|ol 15 14<|oo 16 (.bld [.int .i64 0,.int .i64 0] [(0,1,t 13),(1,1,t 15)])<|oS 2 2 16<|oz 3 0<|N) [1,11,12,13,14,15,16])<|.ret
theorem ok186 : FT 186 17 ir186 [.cell 2 (some 2), .tmp 3] := .o Tryz.func186
def ir236 : Ic := q (R (ok 2 (.k (.str []))<|N) [2])<|q (R (om 3 0<|cl 4 290 [t 3]<|om 2 4<|N) [0,3,4])<|.ret
theorem ok236 : FT 236 5 ir236 [.tmp 2] := .o Tryz.func236
def JOG : Ic := q (R (ok 2 (.k (.str []))<|N) [2])<|q (q (R (om 3 0<|N) [0])<|D (I 3 (q (R (ok 2 (.k (.str [116,114,117,101]))<|N) [3])<|.ret) S) [3])<|q (.reg (ok 2 (.k (.str [102,97,108,115,101]))<|N))<|.ret
theorem ok290 : FT 290 4 JOG [.tmp 2] := .o Tryz.func290
def ir237 : Ic := q (R (ox 1 0<|ok 2 (.k (.str []))<|oz 3 0<|N) [0,2,3])<|q (q (R (oL 6 2 1<|cl 7 21 [t 6]<|om 4 7<|N) [6,7])<|q (R (om 8 4<|oi 9 .neq 8 0<|N) [8])<|D (I 9 (q (R (om 10 4<|ok 2 (.k (.str []))<|om 3 10<|N) [1,4,9,10])<|.ret) S) [4,9])<|q (R (of 11 1 0<|ol 12 11<|cl 13 58 [t 12]<|cl 14 96 [t 13]<|om 5 14<|N) [11,12,13,14])<|q (q (R (of 15 1 1<|ol 16 15<|oi 17 .gtr 16 0<|N) [15,16])<|D (I 17 (q (R (of 18 1 1<|ol 19 18<|oi 20 .add 19 1<|om 21 5<|oj 22 21<|ot 23 .sub 20 22<|oo 24 (.mx (i 0) (t 23))<|cl 25 291 [.k (.str [48]),t 24]<|om 26 5<|ot 27 .cat 25 26<|om 5 27<|N) [17,18,19,20,21,22,23,24,25,26,27])<|R (om 28 5<|om 29 5<|oj 30 29<|of 31 1 1<|ol 32 31<|ot 33 .sub 30 32<|oo 34 (.sls (t 28) none (some (t 33)))<|ob 35 .cat (t 34) (.k (.str [46]))<|om 36 5<|om 37 5<|oj 38 37<|of 39 1 1<|ol 40 39<|ot 41 .sub 38 40<|oo 42 (.sls (t 36) (some (t 41)) none)<|ot 43 .cat 35 42<|om 5 43<|N) [28,29,30,31,32,33,34,35,36,37,38,39,40,41,42,43]) S) [17])<|q (q (R (of 44 1 0<|ol 45 44<|oi 46 .lss 45 0<|N) [1,44,45])<|D (I 46 (R (om 47 5<|ob 48 .cat (.k (.str [45])) (t 47)<|om 5 48<|N) [46,47,48]) S) [46])<|q (R (om 49 5<|om 2 49<|oz 3 0<|N) [5,49])<|.ret
theorem ok237 : FT 237 50 ir237 [.tmp 2, .tmp 3] := .o Tryz.func237
def ir293 : Ic := q (R (ok 4 (.k (.str []))<|N) [4])<|q (R (om 6 0<|cl 7 96 [t 6]<|om 5 7<|N) [0,6,7])<|q (R (om 8 1<|om 9 5<|oj 10 9<|ot 11 .sub 8 10<|oo 12 (.mx (i 0) (t 11))<|cl 13 291 [.k (.str [48]),t 12]<|om 14 5<|ot 15 .cat 13 14<|om 4 15<|N) [1,5,8,9,10,11,12,13,14,15])<|.ret
theorem ok293 : FT 293 16 ir293 [.tmp 4] := .o Tryz.func293
def ir343 : Ic := q (R (ow 6 false<|N) [6])<|q (R (om 7 0<|om 8 1<|ot 9 .geq 7 8<|om 10 9<|.sc 10 true (om 11 0<|om 12 2<|ot 13 .leq 11 12<|N) (t 13) 14 (om 6 14<|N)) [0,1,2,7,8,9,10,14])<|.ret
theorem ok343 : FT 343 15 ir343 [.tmp 6] := .o Tryz.func343
def ir344 : Ic := q (R (oz 2 0<|N) [2])<|q (R (om 4 0<|oi 5 .sub 4 1<|om 3 5<|N) [0,4,5])<|q (R (om 6 3<|ob 7 .mul (i 365) (t 6)<|om 8 3<|oi 9 .quo 8 4<|ot 10 .add 7 9<|om 11 3<|oi 12 .quo 11 100<|ot 13 .sub 10 12<|om 14 3<|oi 15 .quo 14 400<|ot 16 .add 13 15<|om 2 16<|N) [3,6,7,8,9,10,11,12,13,14,15,16])<|.ret
theorem ok344 : FT 344 17 ir344 [.tmp 2] := .o Tryz.func344
def ir345 : Ic := q (R (oz 4 0<|N) [4])<|q (q (R (om 5 1<|oi 6 .eql 5 2<|om 7 6<|.sc 7 true (om 8 0<|cl 9 367 [t 8]<|N) (t 9) 10 N) [0,5,6,7])<|D (I 10 (q (R (oz 4 29<|N) [1,10])<|.ret) S) [10])<|q (R (oo 11 (.bld [.int .i64 0,.int .i64 0,.int .i64 0,.int .i64 0,.int .i64 0,.int .i64 0,.int .i64 0,.int .i64 0,.int .i64 0,.int .i64 0,.int .i64 0,.int .i64 0] [(0,1,i 31),(1,1,i 28),(2,1,i 31),(3,1,i 30),(4,1,i 31),(5,1,i 30),(6,1,i 31),(7,1,i 31),(8,1,i 30),(9,1,i 31),(10,1,i 30),(11,1,i 31)])<|om 12 1<|oi 13 .sub 12 1<|oo 14 (.ixv none 12 1 (t 11) (t 13))<|om 4 14<|N) [1,11,12,13,14])<|.ret
theorem ok345 : FT 345 15 ir345 [.tmp 4] := .o Tryz.func345
def ir367 : Ic := q (R (ow 2 false<|N) [2])<|q (R (om 3 0<|cl 4 343 [t 3,i 1,i 9999]<|om 5 4<|.sc 5 true (om 6 0<|oi 7 .rem 6 4<|oi 8 .eql 7 0<|N) (t 8) 9 (om 10 9<|.sc 10 true (om 11 0<|oi 12 .rem 11 100<|oi 13 .neq 12 0<|om 14 13<|.sc 14 false (om 15 0<|oi 16 .rem 15 400<|oi 17 .eql 16 0<|N) (t 17) 18 N) (t 18) 19 (om 2 19<|N))) [0,3,4,5,9,10,19])<|.ret
theorem ok367 : FT 367 20 ir367 [.tmp 2] := .o Tryz.func367
def JOH : Ic := q (R (oz 2 0<|oz 3 0<|oz 4 0<|oz 5 0<|N) [2,3,4,5])<|q (q (R (om 7 0<|cl 8 343 [t 7,i (-719162),i 2932896]<|og 9 8<|N) [7,8])<|D (I 9 (q (R (oz 2 0<|oz 3 0<|oz 4 0<|oz 5 2<|N) [0,9])<|.ret) S) [9])<|q (R (om 10 0<|oi 11 .sub 10 (-719162)<|om 6 11<|N) [0,10,11])<|q (R (om 12 6<|oi 13 .quo 12 365<|oi 14 .add 13 1<|oo 15 (.mn (t 14) (i 9999))<|om 2 15<|N) [12,13,14,15])<|q (D (.block 0<|.loop (q (q (R (om 16 2<|cl 17 344 [t 16]<|om 18 6<|ot 19 .gtr 17 18<|N) [16,17,18])<|D (I 19 S (E 0)) [19])<|D (.block 1<|R (om 20 2<|oi 21 .sub 20 1<|om 2 21<|N) [20,21]) [])) [19])<|q (R (om 22 6<|om 23 2<|cl 24 344 [t 23]<|ot 25 .sub 22 24<|om 6 25<|N) [22,23,24,25])<|q (q (.reg (oz 3 1<|N))<|D (.block 2<|.loop (q (q (R (om 26 6<|om 27 2<|om 28 3<|cl 29 345 [t 27,t 28]<|ot 30 .geq 26 29<|N) [26,27,28,29])<|D (I 30 S (E 2)) [30])<|q (D (.block 3<|R (om 33 6<|om 34 2<|om 35 3<|cl 36 345 [t 34,t 35]<|ot 37 .sub 33 36<|om 6 37<|N) [33,34,35,36,37]) [])<|R (om 31 3<|oi 32 .add 31 1<|om 3 32<|N) [31,32])) [30])<|q (R (om 38 2<|om 39 3<|om 40 6<|oi 41 .add 40 1<|om 2 38<|om 3 39<|om 4 41<|oz 5 0<|N) [6,38,39,40,41])<|.ret
theorem ok292 : FT 292 42 JOH [.tmp 2, .tmp 3, .tmp 4, .tmp 5] := .o Tryz.func292
def JOI : Ic := q (R (oz 2 0<|oz 3 0<|oz 4 0<|N) [2,3,4])<|q (q (R (om 6 0<|cl 7 343 [t 6,i (-62135596800000),i 253402300799999]<|og 8 7<|N) [6,7])<|D (I 8 (q (R (oz 2 0<|oz 3 0<|oz 4 2<|N) [0,8])<|.ret) S) [8])<|q (R (om 9 0<|oi 10 .sub 9 (-62135596800000)<|om 5 10<|N) [0,9,10])<|q (R (om 11 5<|oi 12 .quo 11 86400000<|ob 13 .add (i (-719162)) (t 12)<|om 14 5<|oi 15 .rem 14 86400000<|om 2 13<|om 3 15<|oz 4 0<|N) [5,11,12,13,14,15])<|.ret
theorem ok294 : FT 294 16 JOI [.tmp 2, .tmp 3, .tmp 4] := .o Tryz.func294
def JOJ : Ic := q (R (ok 2 (.k (.str []))<|oz 3 0<|N) [2,3])<|q (R (om 9 0<|cl 10 292 [t 9]<|om 8 10<|oe 11 8 0<|oe 12 8 1<|oe 13 8 2<|oe 14 8 3<|om 4 11<|om 5 12<|om 6 13<|om 7 14<|N) [0,9,10,8,11,12,13,14])<|q (q (R (om 15 7<|oi 16 .neq 15 0<|N) [15])<|D (I 16 (q (R (om 17 7<|ok 2 (.k (.str []))<|om 3 17<|N) [4,5,6,7,16,17])<|.ret) S) [7,16])<|q (R (om 18 4<|cl 19 293 [t 18,i 4]<|ob 20 .cat (t 19) (.k (.str [45]))<|om 21 5<|cl 22 293 [t 21,i 2]<|ot 23 .cat 20 22<|ob 24 .cat (t 23) (.k (.str [45]))<|om 25 6<|cl 26 293 [t 25,i 2]<|ot 27 .cat 24 26<|om 2 27<|oz 3 0<|N) [4,5,6,18,19,20,21,22,23,24,25,26,27])<|.ret
theorem ok238 : FT 238 28 JOJ [.tmp 2, .tmp 3] := .o Tryz.func238
def ir239 : Ic := q (R (ok 2 (.k (.str []))<|oz 3 0<|N) [2,3])<|q (R (om 10 0<|cl 11 294 [t 10]<|om 9 11<|oe 12 9 0<|oe 13 9 1<|oe 14 9 2<|om 4 12<|om 5 13<|om 6 14<|N) [0,10,11,9,12,13,14])<|q (q (R (om 15 6<|oi 16 .neq 15 0<|N) [15])<|D (I 16 (q (R (om 17 6<|ok 2 (.k (.str []))<|om 3 17<|N) [4,5,6,16,17])<|.ret) S) [6,16])<|q (R (om 19 4<|cl 20 238 [t 19]<|om 18 20<|oe 21 18 0<|oe 22 18 1<|om 7 21<|om 6 22<|N) [4,19,20,18,21,22])<|q (q (R (om 23 6<|oi 24 .neq 23 0<|N) [23])<|D (I 24 (q (R (om 25 6<|ok 2 (.k (.str []))<|om 3 25<|N) [5,7,6,24,25])<|.ret) S) [6,24])<|q (R (om 26 5<|oi 27 .quo 26 1000<|om 8 27<|N) [26,27])<|q (R (om 28 7<|om 29 8<|oi 30 .quo 29 3600<|cl 31 293 [t 30,i 2]<|ob 32 .cat (.k (.str [84])) (t 31)<|ob 33 .cat (t 32) (.k (.str [58]))<|om 34 8<|oi 35 .quo 34 60<|oi 36 .rem 35 60<|cl 37 293 [t 36,i 2]<|ot 38 .cat 33 37<|ob 39 .cat (t 38) (.k (.str [58]))<|om 40 8<|oi 41 .rem 40 60<|cl 42 293 [t 41,i 2]<|ot 43 .cat 39 42<|ot 44 .cat 28 43<|om 7 44<|N) [8,28,29,30,31,32,33,34,35,36,37,38,39,40,41,42,43,44])<|q (q (R (om 45 5<|oi 46 .rem 45 1000<|oi 47 .neq 46 0<|N) [45,46])<|D (I 47 (R (om 48 7<|om 49 5<|oi 50 .rem 49 1000<|cl 51 293 [t 50,i 3]<|ob 52 .cat (.k (.str [46])) (t 51)<|ot 53 .cat 48 52<|om 7 53<|N) [5,47,48,49,50,51,52,53]) S) [5,47])<|q (R (om 54 7<|ob 55 .cat (t 54) (.k (.str [90]))<|om 2 55<|oz 3 0<|N) [7,54,55])<|.ret
theorem JKi : FT 239 56 ir239 [.tmp 2, .tmp 3] := .o Tryz.func239
def ir187 : Ic := q (R (ox 3 1<|oN 4 v6<|N) [1])<|q (.reg (ok 5 (.k (.str []))<|N))<|q (.reg (oz 6 0<|N))<|q (q (R (of 7 3 0<|ol 8 7<|N) [7])<|D (.block 0<|q (R (oi 10 .eql 8 1<|om 9 10<|N) [10])<|I 9 (R (of 11 3 1<|ol 12 11<|oi 13 .eql 12 1<|cl 14 236 [t 13]<|om 5 14<|N) [3,8,9,11,12,13,14]) (q (q (R (oi 16 .eql 8 2<|om 15 16<|N) [9,16])<|I 15 S (R (oi 17 .eql 8 3<|om 15 17<|N) [17]))<|I 15 (R (oL 19 6 3<|cl 20 177 [t 19]<|cl 21 237 [t 20]<|om 18 21<|oe 22 18 0<|oe 23 18 1<|om 5 22<|om 6 23<|N) [3,8,15,19,20,21,18,22,23]) (q (R (oi 25 .eql 8 4<|om 24 25<|N) [15,25])<|I 24 (R (of 26 3 3<|ol 27 26<|om 5 27<|N) [3,8,24,26,27]) (q (R (oi 29 .eql 8 6<|om 28 29<|N) [6,24,29])<|I 28 (R (of 31 3 1<|ol 32 31<|cl 33 238 [t 32]<|om 30 33<|oe 34 30 0<|oe 35 30 1<|om 5 34<|om 6 35<|N) [3,8,28,31,32,33,30,34,35]) (q (R (oi 37 .eql 8 7<|om 36 37<|N) [8,28,37])<|I 36 (R (of 39 3 1<|ol 40 39<|cl 41 239 [t 40]<|om 38 41<|oe 42 38 0<|oe 43 38 1<|om 5 42<|om 6 43<|N) [3,36,39,40,41,38,42,43]) (R (oz 6 18<|N) [3,36])))))) [11])<|q (q (R (om 44 6<|oi 45 .neq 44 0<|N) [44])<|D (I 45 (q (R (om 46 0<|om 47 6<|cl 48 126 [t 46,t 47]<|oS 6 4 48<|N) [0,5,6,45,46,47,48])<|.ret) S) [0,6,45])<|q (R (om 49 5<|cl 50 37 [t 49]<|oS 6 4 50<|N) [5,49,50])<|.ret
theorem JEc : FT 187 51 ir187 [.cell 4 (some 6)] := .o Tryz.func187
def ir240 : Ic := q (R (oN 2 [.int .i64 0,.int .i64 0]<|oz 3 0<|N) [3])<|q (D (.block 0<|q (R (om 13 0<|ob 14 .seq (t 13) (.k (.str []))<|om 12 14<|N) [13,14])<|D (I 12 (q (R (oo 15 (.bld [.int .i64 0,.int .i64 0] [])<|oS 2 2 15<|oz 3 4<|N) [0,12,15])<|.ret) (q (R (om 17 0<|oj 18 17<|oi 19 .gtr 18 17<|om 16 19<|N) [12,17,18,19])<|D (I 16 (q (R (oo 20 (.bld [.int .i64 0,.int .i64 0] [])<|oS 2 2 20<|oz 3 5<|N) [0,16,20])<|.ret) S) [16])) []) [])<|q (R (om 22 0<|cl 23 221 [t 22,.k (.str [46])]<|om 21 23<|oe 24 21 0<|oe 25 21 1<|oe 26 21 2<|om 4 24<|om 5 25<|om 6 26<|N) [22,23,21,24,25,26])<|q (R (om 28 4<|om 29 5<|ot 30 .cat 28 29<|cl 31 222 [t 30]<|om 27 31<|oe 32 27 0<|oe 33 27 1<|om 7 32<|om 8 33<|N) [4,28,29,30,31,27,32,33])<|q (R (om 34 7<|om 35 5<|oj 36 35<|oo 37 (.bld [.int .i64 0,.int .i64 0] [(0,1,t 34),(1,1,t 36)])<|oN 9 [.int .i64 0,.int .i64 0]<|oS 2 9 37<|N) [7,34,35,36,37])<|q (q (R (oL 39 2 9<|cl 40 237 [t 39]<|om 38 40<|oe 41 38 0<|oe 42 38 1<|om 10 41<|om 11 42<|N) [39,40,38,41,42])<|q (R (om 43 8<|ob 44 .nilne (t 43) (.k .nilIface)<|om 45 44<|.sc 45 false (om 46 11<|oi 47 .neq 46 0<|N) (t 47) 48 (om 49 48<|.sc 49 false (om 50 10<|om 51 0<|ot 52 .sne 50 51<|N) (t 52) 53 (om 54 53<|.sc 54 false (om 55 6<|om 56 55<|.sc 56 true (om 57 5<|ob 58 .seq (t 57) (.k (.str []))<|N) (t 58) 59 N) (t 59) 60 N))) [0,5,6,8,10,11,43,44,45,48,49,53,54])<|D (I 60 (q (R (oo 61 (.bld [.int .i64 0,.int .i64 0] [])<|oS 2 2 61<|oz 3 13<|N) [9,60,61])<|.ret) S) [60])<|q (R (oL 62 2 9<|oS 2 2 62<|oz 3 0<|N) [9,62])<|.ret
theorem ok240 : FT 240 63 ir240 [.cell 2 (some 2), .tmp 3] := .o Tryz.func240
def ir188 : Ic := q (R (ox 3 1<|oN 4 v6<|N) [1])<|q (q (R (of 7 3 0<|ol 8 7<|oi 9 .neq 8 4<|N) [7,8])<|D (I 9 (q (R (om 10 0<|cl 11 126 [t 10,i 18]<|oS 6 4 11<|N) [0,3,9,10,11])<|.ret) S) [9])<|q (R (of 13 3 3<|ol 14 13<|cl 15 240 [t 14]<|om 12 15<|oe 16 12 0<|oe 17 12 1<|oN 5 [.int .i64 0,.int .i64 0]<|oS 2 5 16<|om 6 17<|N) [3,13,14,15,12,16,17])<|q (q (R (om 18 6<|oi 19 .neq 18 0<|om 20 19<|.sc 20 false (of 21 5 1<|ol 22 21<|oi 23 .neq 22 0<|N) (t 23) 24 N) [6,18,19,20])<|D (I 24 (q (R (om 25 0<|cl 26 126 [t 25,i 13]<|oS 6 4 26<|N) [0,5,24,25,26])<|.ret) S) [0,24])<|q (R (of 27 5 0<|ol 28 27<|cl 29 36 [t 28]<|oS 6 4 29<|N) [5,27,28,29])<|.ret
theorem ok188 : FT 188 30 ir188 [.cell 4 (some 6)] := .o Tryz.func188
def ir133 : Ic := q (R (ox 5 2<|oN 6 v6<|N) [2])<|q (q (R (om 9 0<|oc 10 9<|of 11 10 6<|ol 12 11<|oi 13 .neq 12 0<|N) [9,10,11,12])<|D (I 13 (q (R (oo 14 (.bld v6 [])<|oS 6 6 14<|N) [0,1,5,13,14])<|.ret) S) [13])<|q (q (.reg (om 15 1<|N))<|D (.block 0<|q (R (oi 17 .eql 15 16<|om 16 17<|N) [17])<|I 16 (q (q (R (oL 18 6 5<|cl 19 176 [t 18]<|og 20 19<|N) [1,15,16,18,19])<|D (I 20 (q (R (om 21 0<|cl 22 126 [t 21,i 18]<|oS 6 6 22<|N) [0,5,20,21,22])<|.ret) S) [20])<|q (R (oL 24 6 5<|cl 25 177 [t 24]<|cl 26 186 [t 25]<|om 23 26<|oe 27 23 0<|oe 28 23 1<|oN 7 [.int .i64 0,.int .i64 0]<|oS 2 7 27<|om 8 28<|N) [24,25,26,23,27,28])<|q (R (om 29 0<|of 30 5 0<|ol 31 30<|oi 32 .eql 31 2<|oL 33 2 7<|om 34 8<|cl 35 181 [t 29,t 32,t 33,t 34]<|oS 6 6 35<|N) [0,5,7,8,29,30,31,32,33,34,35])<|.ret) (q (R (oi 37 .eql 15 18<|om 36 37<|N) [16,37])<|I 36 (q (q (R (of 38 5 0<|ol 39 38<|N) [1,15,36,38])<|D (.block 1<|q (q (R (oi 41 .eql 39 4<|om 40 41<|N) [41])<|I 40 S (R (oi 42 .eql 39 5<|om 40 42<|N) [42]))<|I 40 (q (R (of 43 5 3<|ol 44 43<|oj 45 44<|cl 46 36 [t 45]<|oS 6 6 46<|N) [0,5,39,40,43,44,45,46])<|.ret) (q (R (oi 48 .eql 39 8<|om 47 48<|N) [39,40,48])<|D (I 47 (q (R (of 49 5 4<|ol 50 49<|oh 51 50<|cl 52 36 [t 51]<|oS 6 6 52<|N) [0,5,47,49,50,51,52])<|.ret) S) [5,47])) [])<|q (R (om 53 0<|cl 54 126 [t 53,i 18]<|oS 6 6 54<|N) [0,53,54])<|.ret) (q (R (oi 56 .eql 15 27<|om 55 56<|N) [36,56])<|I 55 (q (R (om 57 0<|oL 58 6 5<|cl 59 187 [t 57,t 58]<|oS 6 6 59<|N) [0,1,5,15,55,57,58,59])<|.ret) (q (R (oi 61 .eql 15 28<|om 60 61<|N) [15,55,61])<|D (I 60 (q (R (om 62 0<|oL 63 6 5<|cl 64 188 [t 62,t 63]<|oS 6 6 64<|N) [0,1,5,60,62,63,64])<|.ret) S) [60])))) [7,8])<|q (q (R (of 65 5 0<|ol 66 65<|oi 67 .neq 66 4<|N) [65,66])<|D (I 67 (q (R (om 68 0<|cl 69 126 [t 68,i 18]<|oS 6 6 69<|N) [0,1,5,67,68,69])<|.ret) S) [0,67])<|q (q (R (om 70 1<|oi 71 .eql 70 19<|N) [1,70])<|D (I 71 (q (R (of 72 5 3<|ol 73 72<|cl 74 189 [t 73]<|cl 75 37 [t 74]<|oS 6 6 75<|N) [5,71,72,73,74,75])<|.ret) S) [71])<|q (R (of 76 5 3<|ol 77 76<|cl 78 190 [t 77]<|cl 79 37 [t 78]<|oS 6 6 79<|N) [5,76,77,78,79])<|.ret
theorem JEd : FT 133 80 ir133 [.cell 6 (some 6)] := .o Tryz.func133
def ir189 : Ic := q (R (ok 2 (.k (.str []))<|N) [2])<|q (R (om 3 0<|cl 4 241 [t 3,.k (.int .u8 65),i 32]<|om 2 4<|N) [0,3,4])<|.ret
theorem ok189 : FT 189 5 ir189 [.tmp 2] := .o Tryz.func189
def ir190 : Ic := q (R (ok 2 (.k (.str []))<|N) [2])<|q (R (om 3 0<|cl 4 241 [t 3,.k (.int .u8 97),i (-32)]<|om 2 4<|N) [0,3,4])<|.ret
theorem ok190 : FT 190 5 ir190 [.tmp 2] := .o Tryz.func190
end Go.Proofs
namespace Go.Proofs
open Go Av
def JH2 (p : Int × Int) : (Int × Int) × Int := if JCf p != 0 then ((0, 0), JCf p) else ((IntKind.i64.wrap (0 - p.1), p.2), 0)
theorem JRj (p : Int × Int) : Ui Tryz.prog 186 [Jn p] (.tup [.d (Jn (JH2 p).1), .d (.int .i64 (JH2 p).2)]) := by
  refine ok186.pcon (Nat.le_of_ble_eq_true rfl) (by simp [JQR, JW, JP]) ?_
  have c21 := (JJO p).call trivial
  generalize hT : JH2 p = T
  unfold JH2 at hT
  simp only [Jn] at c21 ⊢
  simp only [go_sem, ir186, Nat.reduceAdd, Nat.reduceEqDiff, Nat.reduceBEq, Nat.reduceLeDiff, reduceCtorEq, ↓reduceIte]
  refine UU rfl c21 trivial ?_
  simp only [go_sem, Nat.reduceAdd, Nat.reduceEqDiff, Nat.reduceBEq, Nat.reduceLeDiff, reduceCtorEq, ↓reduceIte]
  refine ⟨fun h => ?_, fun h => ?_⟩
  · rw [if_pos h] at hT
    rw [← hT]
    try rfl
  · rw [if_neg (by rw [h]; exact Bool.false_ne_true)] at hT
    rw [← hT]
    try simp only [go_sem, Nat.reduceAdd, Nat.reduceEqDiff, Nat.reduceBEq, Nat.reduceLeDiff, reduceCtorEq, ↓reduceIte]
    try rfl
def JAD (b : Bool) : Str := if b then [116, 114, 117, 101] else [102, 97, 108, 115, 101]
theorem JRk (b : Bool) : PT 236 [.bool b] (.d (.str (JAD b))) := by
 have c290 : PT 290 [.bool b] (.d (.str (JAD b))) := by
  refine ok290.pc ?_;cases b
  ·simp only [go_sem, JOG, JAD, Vu, simprocAttr]
  ·simp only [go_sem, JOG, JAD, simprocAttr]
 refine ok236.pc ?_;simp only [go_sem, ir236, simprocAttr];refine wc (c290.call trivial) trivial
def JFM (n : Int) : Str := List.replicate n.toNat 48
def JFN : Prop := ∀ n : Int, 0 ≤ n → n ≤ 100 → CT 291 [.d (.str [48]), .d (.int .i64 n)] [] (.d (.str (JFM n))) []
def JFO (k : Int) (s : Str) : Int := if k + 1 - (s.length : Int) > 0 then k + 1 - (s.length : Int) else 0
def JRl (s : Str) (k : Int) : Str := (s.take ((s.length : Int) - k).toNat ++ [46]) ++ s.drop ((s.length : Int) - k).toNat
def dpS (p : Int × Int) : Str := if decide (p.2 > 0) then JRl (JFM (JFO p.2 (Lib.itoa (Ud p.1))) ++ Lib.itoa (Ud p.1)) p.2 else Lib.itoa (Ud p.1)
def JRm (p : Int × Int) : Str := if decide (p.1 < 0) then [45] ++ dpS p else dpS p
def JEe (p : Int × Int) : Str × Int := if JCf p != 0 then ([], JCf p) else (JRm p, 0)
theorem JKj {b : Int} (h0 : -999999999999999 ≤ b) (h1 : b ≤ 999999999999999) : 0 ≤ Ud b ∧ Ud b ≤ 999999999999999 := by
 by_cases h : b = 0
 ·subst h; decide
 ·obtain ⟨a, b⟩ := JEZ h h0 h1;omega
theorem JGi (hrep : JFN) (p : Int × Int) : PT 237 [Jn p] (.tup [.d (.str (JEe p).1), .d (.int .i64 (JEe p).2)]) := by
 refine ok237.pc ?_;have c21 := (JJO p).call trivial;have c58 := (Yx p.1).call trivial;generalize hT : JEe p = T;unfold JEe at hT;simp only [Jn] at c21 ⊢;simp only [go_sem, ir237, Nat.reduceAdd, Nat.reduceEqDiff, Nat.reduceBEq, Nat.reduceLeDiff, reduceCtorEq, ↓reduceIte];refine wc c21 ?_;apply ik <;> intro h
 ·rw [if_pos h] at hT;rw [← hT]
  try rfl
 rw [if_neg (nF h)] at hT;obtain ⟨b0, b1, b2, b3⟩ := Xl (sX h);obtain ⟨a0, a1⟩ := JKj b2 b3;have c96 := call96 (Ud p.1) oM oM;have hil := Lib.itoa_length_le (Ud p.1) oM oM;unfold JRm at hT;generalize hS : dpS p = S at hT;unfold dpS at hS;generalize Lib.itoa (Ud p.1) = s at *
 try refine zz ?_
 refine wc c58 ?_;refine wc c96 ?_;apply ik <;> intro h1
 ·rw [if_pos h1] at hS;simp only [decide_eq_true_eq] at h1;have w1 : IntKind.i64.wrap (p.2 + 1) = p.2 + 1 := wrap64 oM oM;have w2 : IntKind.i64.wrap (p.2 + 1 - (s.length : Int)) = p.2 + 1 - (s.length : Int) := wrap64 oM oM;have hp : JFO p.2 s = if p.2 + 1 - (s.length : Int) > 0 then p.2 + 1 - (s.length : Int) else 0 := rfl;have hpb : 0 ≤ JFO p.2 s ∧ JFO p.2 s ≤ 13 ∧ p.2 + 1 - (s.length : Int) ≤ JFO p.2 s := by rw [hp]; split <;> omega
  have c291 := hrep (JFO p.2 s) oM oM;rw [w1, w2, ← hp];generalize JFO p.2 s = k at *;have hrl : (JFM k).length = k.toNat := by simp [JFM]
  generalize hq : JFM k ++ s = q at *;have hql : (q.length : Int) = k + s.length := by rw [← hq, Vg, hrl]; omega
  have w3 : IntKind.i64.wrap ((q.length : Int) - p.2) = (q.length : Int) - p.2 := wrap64 oM oM;refine wn c291 ?_;simp only [go_sem, hq, w3, JFr q ((q.length : Int) - p.2) oM, Nat.reduceAdd, Nat.reduceEqDiff, Nat.reduceBEq, Nat.reduceLeDiff, reduceCtorEq, ↓reduceIte];have e0 : (q.drop (Int.toNat 0)).take ((q.length : Int) - p.2 - 0).toNat ++ [46] ++ q.drop ((q.length : Int) - p.2).toNat = S := by
   rw [← hS]; simp [JRl]
  have hSl : S.length ≤ 100 := by
   rw [← hS];simp only [JRl, Vg, List.length_take, List.length_drop, Vf, Vm];omega
  have hl1 : ((q.drop (Int.toNat 0)).take ((q.length : Int) - p.2 - 0).toNat ++ [46]).length ≤ 68719476736 := by
   simp only [Vg, List.length_take, List.length_drop, Vf, Vm];omega
  rw [e0];refine ⟨oM, ⟨oM, oM, oM⟩, hl1, ⟨oM, oM, oM⟩, oM, fun h2 => ?_, fun h2 => ?_⟩
  ·rw [if_pos h2] at hT;rw [← hT];exact ⟨oM, rfl⟩
  ·rw [if_neg (nF h2)] at hT;rw [← hT]
 ·rw [if_neg (nF h1)] at hS;subst hS
  try refine zz ?_
  apply ik <;> intro h2
  ·rw [if_pos h2] at hT;rw [← hT];exact ⟨oM, rfl⟩
  ·rw [if_neg (nF h2)] at hT;rw [← hT]
theorem JOK {p : Int × Int} (h : JCf p = 0) : (JRm p).length ≤ 100 := by
 obtain ⟨b0, b1, b2, b3⟩ := Xl h;obtain ⟨a0, a1⟩ := JKj b2 b3;have hil := Lib.itoa_length_le (Ud p.1) oM oM;have : (dpS p).length ≤ 90 := by
  unfold dpS;generalize Lib.itoa (Ud p.1) = s at *;split
  ·have hp : JFO p.2 s = if p.2 + 1 - (s.length : Int) > 0 then p.2 + 1 - (s.length : Int) else 0 := rfl;have hpb : 0 ≤ JFO p.2 s ∧ JFO p.2 s ≤ 13 := by rw [hp]; split <;> omega
   simp only [JRl, JFM, Vg, List.length_take, List.length_drop, Vf, Vm, List.length_replicate];omega
  ·omega
 unfold JRm;split
 ·simp; omega
 ·omega
def JH3 (s : Str) : (Int × Int) × Int :=
 if s == [] then ((0, 0), 4) else if decide ((s.length : Int) > 17) then ((0, 0), 5) else
  let C := Xp s 46
  let A := XA (C.1 ++ C.2.1)
  let O : Int × Int := (A.1, (C.2.1.length : Int))
  if ((!(YH (.d A.2) == some true) || ((JEe O).2 != 0)) || !((JEe O).1 == s)) || (C.2.2 && (C.2.1 == [])) then ((0, 0), 13) else (O, 0)
theorem JRn (hrep : JFN) (s : Str) (hs : s.length ≤ 68719476736) : PT 240 [.str s] (.tup [.d (Jn (JH3 s).1), .d (.int .i64 (JH3 s).2)]) := by
 refine ok240.pc ?_;have c221 := (JKY s 46 hs).call (by simp [JU]);have hcl := JES s 46;generalize hT : JH3 s = T;unfold JH3 at hT;simp only at hT;simp only [go_sem, ir240, simprocAttr];apply ik <;> intro h0
 ·rw [if_pos h0] at hT;rw [← hT]
  try rfl
 rw [if_neg (nF h0)] at hT
 try refine zz ?_
 apply ik <;> intro h1
 ·rw [if_pos h1] at hT;rw [← hT]
  try rfl
 rw [if_neg (nF h1)] at hT;simp only [decide_eq_false_iff_not] at h1;generalize Xp s 46 = C at *;have c222 := call222 (C.1 ++ C.2.1) (by rw [Vg]; omega);have herr := JFq (C.1 ++ C.2.1);generalize XA (C.1 ++ C.2.1) = A at *;have c237 := (JGi hrep (A.1, (C.2.1.length : Int))).call (by simp [JU]);simp only [Jn] at c237;generalize JEe (A.1, (C.2.1.length : Int)) = X at *
 try refine zz ?_
 refine wc c221 ?_;refine ⟨by rw [Vg]; omega, wn c222 ?_⟩;refine zz ?_;refine wn c237 ?_;rcases herr with he | he
 ·have hf : (!(YH (.d A.2) == some true)) = false := by rw [he]; rfl
  rw [hf, Bool.false_or] at hT;rw [he];refine JHX ?_;refine sq (!(X.1 == s)) ?_ ?_
  ·exact JHX trivial
  refine JHX ?_;refine sq (C.2.2 && (C.2.1 == [])) ?_ ?_
  ·refine JHX ?_;refine sq (C.2.1 == []) ?_ ?_
   ·exact JHX trivial
   exact JHX trivial
  refine JHX ?_;apply ik <;> intro h
  ·rw [if_pos h] at hT;rw [← hT]
   try rfl
  ·rw [if_neg (nF h)] at hT;rw [← hT]
   try rfl
 ·have hf : (!(YH (.d A.2) == some true)) = true := by rw [he]; rfl
  rw [hf, Bool.true_or, Bool.true_or, Bool.true_or, if_pos rfl] at hT;rw [he];refine JHX ?_;rw [← hT]
  try rfl
def JH4 (v : Val) (x : Int) : Val × Int :=
 if v.kind != 4 then (zeroV, UI x 18) else if ((JH3 v.text).2 != 0) || ((JH3 v.text).1.2 != 0) then (zeroV, UI x 13) else (.mk 2 (JH3 v.text).1.1 0 [] [] [], x)
theorem JRo (hrep : JFN) (v env : Val) (x : Int) : JT 188 [JB v] env x (.d (JB (JH4 v x).1)) (JH4 v x).2 := by
 refine Con.Ju ok188.has fun hfit => ?_
 have fv := (YT (hfit (JB v) sP)).1;refine ok188.co (k := false) (JI _ _ _) trivial ?_;have c18 := (J0 env x 18).to trivial;have c13 := (J0 env x 13).to trivial;have c240 := (JRn hrep v.text fv).call (by simp [JU]);generalize hT : JH4 v x = T;unfold JH4 at hT;generalize JH3 v.text = N at *;have c36 := (JGa N.1.1).call trivial;simp only [Jn] at c240;rw [JA v, JA T.1];simp only [go_sem, ir188, mC, Va, Vb, simprocAttr];apply ik <;> intro h0
 ·rw [if_pos h0] at hT;rw [← hT];refine wn c18 ?_;generalize zeroV = z at *;rw [JA];refine zz1 ?_;exact zf
 rw [if_neg (nF h0)] at hT
 try refine zz ?_
 refine wc c240 ?_;refine sq (N.1.2 != 0) ?_ ?_
 ·exact zz trivial
 refine zz ?_;apply ik <;> intro h1
 ·rw [if_pos h1] at hT;rw [← hT];refine wn c13 ?_;generalize zeroV = z at *;rw [JA];refine zz1 ?_;exact zf
 rw [if_neg (nF h1)] at hT;rw [← hT]
 try refine zz ?_
 refine wn c36 ?_;rw [JA];refine zz1 ?_;exact zf
end Go.Proofs
namespace Go.Proofs
open Go Av Go.RowKit
theorem JOL {v : Val} (h : fits (JB v)) : v.text.length ≤ 68719476736 ∧ v.list.length ≤ 68719476736 ∧ v.fields.length ≤ 68719476736 ∧ (∀ x ∈ v.list, fits (JB x)) ∧ ∀ f ∈ v.fields, f.name.length ≤ 68719476736 ∧ fits (JB f.value) := by
 rw [JA] at h;simp only [fits, XL, Vc, and_true] at h;obtain ⟨_, _, _, h1, ⟨h2, h3⟩, h4, h5⟩ := h;refine ⟨h1, h2, h4, fun x hx => UQ.1 h3 _ (VC.2 ⟨x, hx, rfl⟩), fun f hf => ?_⟩;have := UQ.1 h5 _ (VC.2 ⟨f, hf, rfl⟩);rw [J3] at this;simp only [fits, XL, and_true] at this;refine ⟨this.1, ?_⟩;rw [JA];simp only [fits, XL, and_true];exact this.2
theorem u8Of {A : Nat → Prop} {w : World} {g : Nat} {cs : List Dat} (h : Zp A w g cs) (j : Nat) (n : Int) (hj : cs[j]? = some (.int .u8 n)) : w.cell? ⟨g, j, none⟩ = some (.int .u8 n) := by
 obtain ⟨h0, C, T, fr, h1, h2, h3, h4⟩ := h;have hlt : j < C.size := by rw [← h2]; exact (VB.1 hj).1
 have := h4 j _ C[j] hj (by simp [hlt]);generalize hz : C[j] = z at this;cases this;simp [World.cell?, h1, hlt, hz]
theorem utabs {A : Nat → Prop} {w : World} (hg : ∀ g cs, Xc g = some cs → Zp A w g cs) : Lib.Utf8Tabs 0 1 w := by
 have h0 := hg 0 JHj rfl;have h1 := hg 1 JGP rfl;refine ⟨fun c hc => u8Of h0 c _ (by simp [JHj, hc]), fun i hi => ?_⟩;have e0 : JGP[2 * i]? = some (.int .u8 (Lib.accLo i)) ∧ JGP[2 * i + 1]? = some (.int .u8 (Lib.accHi i)) := by
  match i, hi with
  | 0, _ | 1, _ | 2, _ | 3, _ | 4, _ | 5, _ | 6, _ | 7, _ | 8, _ | 9, _ | 10, _ | 11, _ | 12, _ | 13, _ | 14, _ | 15, _ => exact ⟨rfl, rfl⟩
  | n + 16, h => omega
 exact ⟨u8Of h1 _ _ e0.1, u8Of h1 _ _ e0.2⟩
def Za (s : Str) : Bool := Lib.validD s
theorem call106 (s : Str) : CT 106 [.d (.str s)] [] (.d (.bool (Za s))) [] := by
 refine JQ.JAj (ds := [.str s]) (JHu Tryz.func106 kR kR) ?_;intro A w vs hg hl hv;obtain ⟨x, rfl⟩ := JBr hl;have hx := hv 0 _ x rfl rfl;cases hx with
 | str _ h =>
  have e : (⟨s.toArray⟩ : ByteArray).data.toList = s := sP;have hsz : (⟨s.toArray⟩ : ByteArray).size = s.length := by simp [ByteArray.size]
  refine (Any.utf8_ValidString Tryz.JAk ⟨s.toArray⟩ w oM (utabs hg)).mono ?_;rintro e' w' ⟨rfl, hb⟩;rw [e];exact ⟨_, rfl, hb, fun β H => .d _ _ (.bool _)⟩
def JEf (v : Val) : Int := if szE v.text.length 1024 5 == 0 && !Za v.text then 16 else szE v.text.length 1024 5
theorem JRp (v : Val) : PT 104 [JB v] (.d (.int .i64 (JEf v))) := by
 refine ok104.pc ?_;rw [JA];simp only [go_sem, ir104, simprocAttr];refine wc ((JBy _ _ _).call trivial) ?_;refine sq (!Za v.text) ?_ ?_
 ·refine zz ?_;refine wc (call106 _) trivial
 refine zz ?_;apply ik <;> intro h
 ·rw [JEf, if_pos h]
 ·rw [JEf, if_neg (by simp [h])]
theorem JH5 (s : Str) : PT 112 [.str s] (.d (.bool (XK s))) := Ui.Ju JNb.has fun h => JDV s (h _ (List.mem_singleton.2 rfl))
def JLd (v : Val) : Int := if !XK v.text then 12 else if ((v.list.length : Nat) : Int) == 0 then 4 else szE v.list.length 1 3
theorem JRq (v : Val) : PT 113 [JB v] (.d (.int .i64 (JLd v))) := by
 refine ok113.pc ?_;rw [JA];simp only [go_sem, ir113, simprocAttr];refine wn ((JH5 _).call trivial) ?_;refine zz7 ?_;refine ⟨fun h => ?_, fun h => ⟨fun h2 => ?_, fun h2 => ?_⟩⟩
 ·rw [JLd, if_pos h]
 ·rw [JLd, if_neg (by simp [h]), if_pos h2]
 ·rw [JLd, if_neg (by simp [h]), if_neg (by simp [h2])];refine wc ((JBy _ _ _).call trivial) trivial
def JH6 : Option Str → List Fld → Int
 | _, [] => 0
 | none, f :: r => if !XK f.name then 12 else JH6 (some f.name) r
 | some p, f :: r => if !XK f.name then 12 else if f.name == p then 7 else if strLt f.name p then 24 else JH6 (some f.name) r
def JOM (v : Val) : Int := if szE v.fields.length 64 9 != 0 then szE v.fields.length 64 9 else JH6 none v.fields
def JAt (l : List Fld) : Nat → Option Str
 | 0 => none
 | k + 1 => l[k]?.map Fld.name
theorem JRr (v : Val) : PT 111 [JB v] (.d (.int .i64 (JOM v))) := by
 refine Ui.Ju ok111.has fun hfit => ?_
 obtain ⟨_, _, hfl, _, _⟩ := JOL (hfit _ (List.mem_singleton.2 rfl));refine ok111.pc ?_;rw [JA];simp only [go_sem, ir111, Vc, Nat.reduceAdd, Nat.reduceEqDiff, Nat.reduceBEq, Nat.reduceLeDiff, reduceCtorEq, ↓reduceIte];refine wc ((JBy _ _ _).call trivial) ?_;apply ik <;> intro h
 ·rw [JOM, if_pos h]
 rw [JOM, if_neg (by simp [h])];refine zz7 ?_;generalize hR : JH6 none v.fields = R;refine JJ (fun n s => ∃ k : Nat, k ≤ v.fields.length ∧ n = v.fields.length - k ∧ R = JH6 (JAt v.fields k) (v.fields.drop k) ∧
  s = ⟨[(1, .ref 1 0), (14, .d (.list 7 (v.fields.map Jh))), (15, .d (.int .i64 v.fields.length)), (16, .d (.int .i64 k))],
   [(1, .box [.d (.int .i64 v.kind), .d (.int .i64 v.int), .d (.int .i64 v.scale), .d (.str v.text), .d (.list 6 (v.list.map JB)), .d (.list 7 (v.fields.map Jh))])]⟩) ?_ ?_
 ·exact ⟨_, _, Wk.refl _, 0, Nat.zero_le _, rfl, hR.symm, rfl⟩
 ·rintro n s ⟨k, hk, rfl, hinv, rfl⟩;by_cases hlt : k < v.fields.length
  ·have hx := J5 hlt;have hd := dT hlt;rw [Vq hlt] at hinv;refine zz8 ?_;refine ⟨oM, wn ((JH5 _).call trivial) ?_⟩;refine zz ?_;apply ik <;> intro h12
   ·have : R = 12 := by
     rw [hinv];cases JAt v.fields k <;> simp only [JH6, h12, ↓reduceIte]
    rw [this]
   cases k with
   | zero =>
    simp only [JAt, JH6, h12, Vu, ↓reduceIte] at hinv;have hg : decide (((0 : Nat) : Int) > 0) = false := rfl;simp only [go_sem, hg, Nat.reduceAdd, Nat.reduceEqDiff, Nat.reduceBEq, Nat.reduceLeDiff, reduceCtorEq, ↓reduceIte];have hp : JAt v.fields (0 + 1) = some v.fields[0].name := by simp [JAt, hlt]
    refine ⟨v.fields.length - 1, _, oM, Wk.less ?_, 0 + 1, oM, rfl, by rw [hp]; exact hinv, rfl⟩;simp only [go_sem, Jj 0 oM, Nat.reduceAdd, Nat.reduceEqDiff, Nat.reduceBEq, Nat.reduceLeDiff, reduceCtorEq, ↓reduceIte]
   | succ k =>
    have hlt' : k < v.fields.length := oM;have hx' := J5 hlt';have hp : JAt v.fields (k + 1) = some v.fields[k].name := by simp [JAt, hlt']
    have hp2 : JAt v.fields (k + 1 + 1) = some v.fields[k + 1].name := by simp [JAt, hlt]
    rw [hp] at hinv;simp only [JH6, h12, Vu, ↓reduceIte] at hinv;have hg : decide (((k + 1 : Nat) : Int) > 0) = true := sP;have hw : IntKind.i64.wrap (((k + 1 : Nat) : Int) - 1) = k := by rw [wrap64 oM oM]; omega
    simp only [go_sem, hg, hw, hx', Vv, Vc, Nat.reduceAdd, Nat.reduceEqDiff, Nat.reduceBEq, Nat.reduceLeDiff, reduceCtorEq, ↓reduceIte];refine ⟨⟨oM, oM⟩, dC, fun q => ?_, fun q => ⟨⟨oM, oM⟩, dC, fun q2 => ?_, fun q2 => ?_⟩⟩
    ·rw [if_pos q] at hinv;rw [hinv]
    ·rw [if_neg (by simp [q]), if_pos q2] at hinv;rw [hinv]
    ·rw [if_neg (by simp [q]), if_neg (by simp [q2])] at hinv;refine ⟨v.fields.length - (k + 1 + 1), _, oM, Wk.less ?_, k + 1 + 1, oM, rfl, by rw [hp2]; exact hinv, rfl⟩;simp only [go_sem, Jj (k + 1) oM, Nat.reduceAdd, Nat.reduceEqDiff, Nat.reduceBEq, Nat.reduceLeDiff, reduceCtorEq, ↓reduceIte]
  ·have hd := dF hlt;obtain rfl : k = v.fields.length := oM;rw [List.drop_length] at hinv;have : R = 0 := by rw [hinv]; cases JAt v.fields v.fields.length <;> rfl
   simp only [go_sem, hd, this, Nat.reduceAdd, Nat.reduceEqDiff, Nat.reduceBEq, Nat.reduceLeDiff, reduceCtorEq, ↓reduceIte]
end Go.Proofs
namespace Go.Proofs
open Go.Shelf
def Tryz.JDE : Go.Shelf.Ren := ⟨fun | 169 => 235 | n => n, fun | 70 => 267 | 9 => 9 | 0 => 0 | 72 => 269 | 37 => 215 | 127 => 312 | 3 => 3 | 5 => 5 | n => n, fun | n => n⟩
theorem Tryz.JSt : Go.Proofs.Lays.n169 Tryz.prog Tryz.JDE := {
 mixed := kR
 f169 := Tryz.func235.trans (congrArg some kR)
 t0 := Tryz.underlying0
 a0 := Tryz.isAgg0
 z0 := Tryz.sizeOf0
 v0 := Tryz.zeroValue0
 t3 := Tryz.underlying3
 a3 := Tryz.isAgg3
 z3 := Tryz.sizeOf3
 v3 := Tryz.zeroValue3
 t9 := Tryz.underlying9
 a9 := Tryz.isAgg9
 z9 := Tryz.sizeOf9
 v9 := Tryz.zeroValue9
 t37 := Tryz.underlying215
 a37 := Tryz.isAgg215
 z37 := Tryz.sizeOf215
 v37 := Tryz.zeroValue215
 t70 := Tryz.underlying267
 a70 := Tryz.isAgg267
 z70 := Tryz.sizeOf267
 v70 := Tryz.zeroValue267
 t72 := Tryz.underlying269
 a72 := Tryz.isAgg269
 z72 := Tryz.sizeOf269
 v72 := Tryz.zeroValue269
 t127 := Tryz.underlying312
 a127 := Tryz.isAgg312
 z127 := Tryz.sizeOf312
 v127 := Tryz.zeroValue312 }
theorem Tryz.JCH : Builder.Extra Tryz.prog Tryz.JDE := {
 sizeBuilder := kR
 liesBuilder := kR
 t5 := Tryz.underlying5
 a5 := Tryz.isAgg5
 z5 := Tryz.sizeOf5
 v5 := Tryz.zeroValue5
 infoByte := kR
 cellsByte := kR
 sizeByte := kR
 neB5 := by decide }
def Tryz.JDF : Go.Shelf.Ren := ⟨fun | 105 => 291 | 212 => 339 | 99 => 220 | 165 => 340 | 166 => 341 | 170 => 342 | 169 => 235 | 263 => 364 | 264 => 365 | 206 => 275 | 240 => 288 | 241 => 366 | 276 => 337 | 277 => 374 | n => n, fun | 9 => 9 | 3 => 3 | 4 => 4 | 20 => 20 | 0 => 0 | 46 => 189 | 109 => 353 | 5 => 5 | 72 => 269 | 76 => 258 | 51 => 246 | 146 => 370 | 53 => 248 | 148 => 372 | 70 => 267 | 37 => 215 | 75 => 257 | 127 => 312 | 164 => 351 | 80 => 271 | n => n, fun | n => n⟩
theorem Tryz.JSu : Go.Proofs.Lays.n105 Tryz.prog Tryz.JDF := {
 mixed := kR
 f99 := Tryz.func220.trans (congrArg some kR)
 f105 := Tryz.func291.trans (congrArg some kR)
 f165 := Tryz.func340.trans (congrArg some kR)
 f166 := Tryz.func341.trans (congrArg some kR)
 f169 := Tryz.func235.trans (congrArg some kR)
 f170 := Tryz.func342.trans (congrArg some kR)
 f206 := Tryz.func275.trans (congrArg some kR)
 f212 := Tryz.func339.trans (congrArg some kR)
 f240 := Tryz.func288.trans (congrArg some kR)
 f241 := Tryz.func366.trans (congrArg some kR)
 f263 := Tryz.func364.trans (congrArg some kR)
 f264 := Tryz.func365.trans (congrArg some kR)
 f276 := Tryz.func337.trans (congrArg some kR)
 f277 := Tryz.func374.trans (congrArg some kR)
 t0 := Tryz.underlying0
 a0 := Tryz.isAgg0
 z0 := Tryz.sizeOf0
 v0 := Tryz.zeroValue0
 t3 := Tryz.underlying3
 a3 := Tryz.isAgg3
 z3 := Tryz.sizeOf3
 v3 := Tryz.zeroValue3
 t4 := Tryz.underlying4
 a4 := Tryz.isAgg4
 z4 := Tryz.sizeOf4
 v4 := Tryz.zeroValue4
 t5 := Tryz.underlying5
 a5 := Tryz.isAgg5
 z5 := Tryz.sizeOf5
 v5 := Tryz.zeroValue5
 t9 := Tryz.underlying9
 a9 := Tryz.isAgg9
 z9 := Tryz.sizeOf9
 v9 := Tryz.zeroValue9
 t20 := Tryz.underlying20
 a20 := Tryz.isAgg20
 z20 := Tryz.sizeOf20
 v20 := Tryz.zeroValue20
 t37 := Tryz.underlying215
 a37 := Tryz.isAgg215
 z37 := Tryz.sizeOf215
 v37 := Tryz.zeroValue215
 t46 := Tryz.underlying189
 a46 := Tryz.isAgg189
 z46 := Tryz.sizeOf189
 v46 := Tryz.zeroValue189
 t51 := Tryz.underlying246
 a51 := Tryz.isAgg246
 z51 := Tryz.sizeOf246
 v51 := Tryz.zeroValue246
 t53 := Tryz.underlying248
 a53 := Tryz.isAgg248
 z53 := Tryz.sizeOf248
 v53 := Tryz.zeroValue248
 t70 := Tryz.underlying267
 a70 := Tryz.isAgg267
 z70 := Tryz.sizeOf267
 v70 := Tryz.zeroValue267
 t72 := Tryz.underlying269
 a72 := Tryz.isAgg269
 z72 := Tryz.sizeOf269
 v72 := Tryz.zeroValue269
 t75 := Tryz.underlying257
 a75 := Tryz.isAgg257
 z75 := Tryz.sizeOf257
 v75 := Tryz.zeroValue257
 t76 := Tryz.underlying258
 a76 := Tryz.isAgg258
 z76 := Tryz.sizeOf258
 v76 := Tryz.zeroValue258
 t109 := Tryz.underlying353
 a109 := Tryz.isAgg353
 z109 := Tryz.sizeOf353
 v109 := Tryz.zeroValue353
 t127 := Tryz.underlying312
 a127 := Tryz.isAgg312
 z127 := Tryz.sizeOf312
 v127 := Tryz.zeroValue312
 t146 := Tryz.underlying370
 a146 := Tryz.isAgg370
 z146 := Tryz.sizeOf370
 v146 := Tryz.zeroValue370
 t148 := Tryz.underlying372
 a148 := Tryz.isAgg372
 z148 := Tryz.sizeOf372
 v148 := Tryz.zeroValue372
 t164 := Tryz.underlying351
 a164 := Tryz.isAgg351
 z164 := Tryz.sizeOf351
 v164 := Tryz.zeroValue351 }
theorem Tryz.JCI : Builder.Extra Tryz.prog Tryz.JDF := {
 sizeBuilder := kR
 liesBuilder := kR
 t5 := Tryz.underlying5
 a5 := Tryz.isAgg5
 z5 := Tryz.sizeOf5
 v5 := Tryz.zeroValue5
 infoByte := kR
 cellsByte := kR
 sizeByte := kR
 neB5 := by decide }
def Tryz.JIf : Go.Shelf.Ren := ⟨fun | 197 => 287 | 260 => 336 | n => n, fun | 9 => 9 | 21 => 21 | 3 => 3 | 4 => 4 | 5 => 5 | 105 => 309 | 119 => 211 | 0 => 0 | 46 => 189 | 139 => 214 | 138 => 213 | n => n, fun | 3 => 0 | 4 => 1 | n => n⟩
theorem Tryz.JSv : Go.Proofs.Lays.n197 Tryz.prog Tryz.JIf := {
 mixed := kR
 f197 := Tryz.func287.trans (congrArg some kR)
 f260 := Tryz.func336.trans (congrArg some kR)
 t0 := Tryz.underlying0
 a0 := Tryz.isAgg0
 z0 := Tryz.sizeOf0
 v0 := Tryz.zeroValue0
 t3 := Tryz.underlying3
 a3 := Tryz.isAgg3
 z3 := Tryz.sizeOf3
 v3 := Tryz.zeroValue3
 t4 := Tryz.underlying4
 a4 := Tryz.isAgg4
 z4 := Tryz.sizeOf4
 v4 := Tryz.zeroValue4
 t5 := Tryz.underlying5
 a5 := Tryz.isAgg5
 z5 := Tryz.sizeOf5
 v5 := Tryz.zeroValue5
 t9 := Tryz.underlying9
 a9 := Tryz.isAgg9
 z9 := Tryz.sizeOf9
 v9 := Tryz.zeroValue9
 t21 := Tryz.underlying21
 a21 := Tryz.isAgg21
 z21 := Tryz.sizeOf21
 v21 := Tryz.zeroValue21
 t46 := Tryz.underlying189
 a46 := Tryz.isAgg189
 z46 := Tryz.sizeOf189
 v46 := Tryz.zeroValue189
 t105 := Tryz.underlying309
 a105 := Tryz.isAgg309
 z105 := Tryz.sizeOf309
 v105 := Tryz.zeroValue309
 t119 := Tryz.underlying211
 a119 := Tryz.isAgg211
 z119 := Tryz.sizeOf211
 t138 := Tryz.underlying213
 a138 := Tryz.isAgg213
 z138 := Tryz.sizeOf213
 v138 := Tryz.zeroValue213
 t139 := Tryz.underlying214
 a139 := Tryz.isAgg214
 z139 := Tryz.sizeOf214
 v139 := Tryz.zeroValue214
 g3 := kR
 g4 := by kernel_rfl }
def Tryz.JDG : Go.Shelf.Ren := ⟨fun | 168 => 234 | 240 => 288 | 242 => 289 | 276 => 337 | 278 => 338 | n => n, fun | 0 => 0 | 3 => 3 | 4 => 4 | 5 => 5 | 9 => 9 | 20 => 20 | 21 => 21 | 37 => 215 | 46 => 189 | 51 => 246 | 70 => 267 | 72 => 269 | 75 => 257 | 80 => 271 | 164 => 351 | n => n, fun | n => n⟩
theorem Tryz.JSw : Go.Proofs.Lays.n168 Tryz.prog Tryz.JDG := {
 mixed := kR
 f168 := Tryz.func234.trans (congrArg some kR)
 f240 := Tryz.func288.trans (congrArg some kR)
 f242 := Tryz.func289.trans (congrArg some kR)
 f276 := Tryz.func337.trans (congrArg some kR)
 f278 := Tryz.func338.trans (congrArg some kR)
 t0 := Tryz.underlying0
 a0 := Tryz.isAgg0
 z0 := Tryz.sizeOf0
 v0 := Tryz.zeroValue0
 t3 := Tryz.underlying3
 a3 := Tryz.isAgg3
 z3 := Tryz.sizeOf3
 v3 := Tryz.zeroValue3
 t4 := Tryz.underlying4
 a4 := Tryz.isAgg4
 z4 := Tryz.sizeOf4
 v4 := Tryz.zeroValue4
 t5 := Tryz.underlying5
 a5 := Tryz.isAgg5
 z5 := Tryz.sizeOf5
 v5 := Tryz.zeroValue5
 t9 := Tryz.underlying9
 a9 := Tryz.isAgg9
 z9 := Tryz.sizeOf9
 v9 := Tryz.zeroValue9
 t20 := Tryz.underlying20
 a20 := Tryz.isAgg20
 z20 := Tryz.sizeOf20
 v20 := Tryz.zeroValue20
 t21 := Tryz.underlying21
 a21 := Tryz.isAgg21
 z21 := Tryz.sizeOf21
 v21 := Tryz.zeroValue21
 t37 := Tryz.underlying215
 a37 := Tryz.isAgg215
 z37 := Tryz.sizeOf215
 v37 := Tryz.zeroValue215
 t46 := Tryz.underlying189
 a46 := Tryz.isAgg189
 z46 := Tryz.sizeOf189
 v46 := Tryz.zeroValue189
 t51 := Tryz.underlying246
 a51 := Tryz.isAgg246
 z51 := Tryz.sizeOf246
 v51 := Tryz.zeroValue246
 t70 := Tryz.underlying267
 a70 := Tryz.isAgg267
 z70 := Tryz.sizeOf267
 v70 := Tryz.zeroValue267
 t72 := Tryz.underlying269
 a72 := Tryz.isAgg269
 z72 := Tryz.sizeOf269
 v72 := Tryz.zeroValue269
 t75 := Tryz.underlying257
 a75 := Tryz.isAgg257
 z75 := Tryz.sizeOf257
 v75 := Tryz.zeroValue257
 t164 := Tryz.underlying351
 a164 := Tryz.isAgg351
 z164 := Tryz.sizeOf351
 v164 := Tryz.zeroValue351 }
theorem Tryz.JCJ : Builder.Extra Tryz.prog Tryz.JDG := {
 sizeBuilder := kR
 liesBuilder := kR
 t5 := Tryz.underlying5
 a5 := Tryz.isAgg5
 z5 := Tryz.sizeOf5
 v5 := Tryz.zeroValue5
 infoByte := kR
 cellsByte := kR
 sizeByte := kR
 neB5 := by decide }
end Go.Proofs
namespace Go.Proofs
open Go Av
open Av.Y
def ir90 : Ic := q (R (ox 3 0<|ox 4 1<|ox 5 2<|oN 6 v6<|oz 7 0<|N) [0,1,2,7])<|q (R (oL 11 6 3<|ol 12 4<|cl 13 154 [t 11,t 12]<|om 8 13<|N) [11,12,13])<|q (D (.block 0<|q (R (of 15 3 0<|ol 16 15<|oi 17 .neq 16 9<|om 14 17<|N) [15,16,17])<|D (I 14 (q (R (oo 18 (.bld v6 [])<|oS 6 6 18<|oz 7 11<|N) [3,4,5,8,14,18])<|.ret) (q (R (ol 20 4<|cl 21 112 [t 20]<|og 22 21<|om 19 22<|N) [14,20,21,22])<|D (I 19 (q (R (oo 23 (.bld v6 [])<|oS 6 6 23<|oz 7 12<|N) [3,4,5,8,19,23])<|.ret) (q (R (oL 25 6 5<|cl 26 13 [t 25]<|om 24 26<|N) [19,25,26])<|D (I 24 (q (R (oo 27 (.bld v6 [])<|oS 6 6 27<|oz 7 19<|N) [3,4,5,8,24,27])<|.ret) (q (R (om 29 8<|oi 30 .lss 29 0<|om 31 30<|.sc 31 true (of 32 3 5<|ol 33 32<|oh 34 33<|oi 35 .geq 34 64<|N) (t 35) 36 (om 28 36<|N)) [24,29,30,31,36])<|D (I 28 (q (R (oo 37 (.bld v6 [])<|oS 6 6 37<|oz 7 9<|N) [3,4,5,8,28,37])<|.ret) S) [28])) [])) [])) []) [])<|q (R (oL 38 6 3<|cl 39 55 [t 38]<|oN 9 v6<|oS 6 9 39<|N) [3,38,39])<|q (q (R (om 40 8<|oi 41 .geq 40 0<|N) [40])<|D (I 41 (q (D (.regd [(1,4)] (of 42 9 5<|ol 43 42<|om 44 8<|oL 45 6 5<|cl 46 55 [t 45]<|oa true 47 7 43 44<|of 48 47 1<|oS 6 48 46<|N)) [4,5,8,41,42,43,44,45,46,47,48])<|q (R (oL 49 6 9<|oS 6 6 49<|oz 7 0<|N) [9,49])<|.ret) S) [8,41])<|q (R (of 50 9 5<|ol 51 50<|oo 52 (.fnv (.func 155) [] [t 4])<|cl 53 144 [t 51,t 52]<|om 10 53<|N) [50,51,52,53])<|q (q (R (om 54 10<|oi 55 .lss 54 0<|N) [54])<|D (I 55 (R (of 56 9 5<|ol 57 56<|oh 58 57<|om 10 58<|N) [55,56,57,58]) S) [55])<|q (D (.regd [(1,5),(3,5),(1,7)] (of 59 9 5<|ol 60 59<|om 61 10<|ol 62 4<|oL 63 6 5<|cl 64 55 [t 63]<|oo 65 (.bld v7 [(0,1,t 62),(1,6,t 64)])<|oo 66 (.bls 7 [t 65])<|cl 67 156 [t 60,t 61,t 66]<|of 68 9 5<|os 68 67<|N)) [4,5,10,59,60,61,62,63,64,65,66,67,68])<|q (R (oL 69 6 9<|oS 6 6 69<|oz 7 0<|N) [9,69])<|.ret
theorem ok90 : FT 90 70 ir90 [.cell 6 (some 6), .tmp 7] := .o Tryz.func90
def JON : Ic := q (R (om 13 31<|N) [6,7,9,30,31])<|R (oN 14 v6<|oS 6 14 32<|N) [32]
def JJV : Ic := D (.block 1<|q (R (ol 33 12<|om 34 33<|.sc 34 false (oL 35 6 14<|cl 36 13 [t 35]<|om 37 36<|.sc 37 true (oL 38 7 5<|om 39 13<|cl 40 43 [t 38,t 39]<|N) (t 40) 41 N) (t 41) 42 (os 12 42<|N)) [5,12,33,34,35,36,37,38,39,40,41,42])<|q (R (ol 43 11<|oi 44 .eql 43 0<|N) [43])<|D (I 44 (R (oL 46 6 10<|om 47 13<|oL 48 6 14<|cl 49 44 [t 46,t 47,t 48]<|om 45 49<|oe 50 45 0<|oe 51 45 1<|oS 6 10 50<|os 11 51<|N) [10,11,13,14,44,46,47,48,49,45,50,51]) S) [10,11,13,14,44]) [5,10,11,12,13,14,33,34,35,36,37,38,39,40,41,42,43,44,46,47,48,49,45,50,51]
noncomputable def ir12 : Ic := q (R (ox 3 0<|ox 4 1<|ox 5 2<|oN 6 v6<|oz 7 0<|N) [0,1,2])<|q (q (R (oL 17 1 3<|cl 18 41 [t 17]<|om 8 18<|N) [17,18])<|q (R (om 19 8<|oi 20 .neq 19 0<|N) [19])<|D (I 20 (q (R (oo 21 (.bld v6 [])<|om 22 8<|oS 6 6 21<|om 7 22<|N) [3,4,5,8,20,21,22])<|.ret) S) [8,20])<|q (q (R (of 23 4 0<|ol 24 23<|oi 25 .neq 24 9<|N) [23,24])<|D (I 25 (q (R (oo 26 (.bld v6 [])<|oS 6 6 26<|oz 7 11<|N) [3,4,5,25,26])<|.ret) S) [25])<|q (.reg (oN 9 [.int .i64 0]<|N))<|q (R (cl 27 35 [.k (.nil 7)]<|oN 10 v6<|oN 11 [.int .i64 0]<|oN 12 [.bool false]<|oS 6 10 27<|on (.sto none (t 11) (i 0))<|on (.sto none (t 12) (B false))<|N) [27])<|q (q (R (oL 28 1 3<|oL 29 6 4<|cl 30 42 [t 28,t 29,t 9]<|N) [3,4,28,29])<|D (.block 0<|D (.rng (t 30) 82 113 #[31,32] (Xs (U3 Tryz.f12) [1,1,1,1,1,0,1,0,0]) (Xs (U3 Tryz.f12) [1,1,1,1,1,0,1,0,1]) JON JJV) [7,30]) [7,30])<|q (D (.block 2<|q (R (ol 53 9<|oi 54 .neq 53 0<|om 52 54<|N) [53,54])<|D (I 52 (q (D (.regd [(1,2)] (oo 55 (.bld v6 [])<|ol 56 9<|oS 6 6 55<|om 7 56<|N)) [5,9,10,11,12,52,55,56])<|.ret) (q (R (ol 58 11<|oi 59 .neq 58 0<|om 57 59<|N) [9,52,58,59])<|D (I 57 (q (D (.regd [(1,2)] (oo 60 (.bld v6 [])<|ol 61 11<|oS 6 6 60<|om 7 61<|N)) [5,10,11,12,57,60,61])<|.ret) (q (R (ol 63 12<|om 62 63<|N) [11,12,57,63])<|D (I 62 (q (R (oo 64 (.bld v6 [])<|oS 6 6 64<|oz 7 19<|N) [5,10,62,64])<|.ret) S) [7,62])) [7])) [7]) [9,11,12,53,54,52,55,56,7,58,59,57,60,61,63,62,64])<|q (R (oL 66 7 5<|oL 67 6 10<|cl 68 45 [t 66,t 67]<|om 65 68<|oe 69 65 0<|oe 70 65 1<|oS 6 10 69<|om 15 70<|N) [5,66,67,68,65,69,70])<|q (q (R (om 71 15<|oi 72 .neq 71 0<|N) [71])<|D (I 72 (q (R (oo 73 (.bld v6 [])<|om 74 15<|oS 6 6 73<|om 7 74<|N) [10,15,72,73,74])<|.ret) S) [7,15,72])<|q (q (R (oL 75 6 10<|cl 76 15 [t 75]<|om 16 76<|N) [75,76])<|q (R (om 77 16<|oi 78 .neq 77 0<|N) [77])<|D (I 78 (q (R (oo 79 (.bld v6 [])<|om 80 16<|oS 6 6 79<|om 7 80<|N) [10,16,78,79,80])<|.ret) S) [7,16,78])<|q (R (oL 81 6 10<|oS 6 6 81<|oz 7 0<|N) [10,81])<|.ret
theorem ok12 : FT 12 82 ir12 [.cell 6 (some 6), .tmp 7] := .o Tryz.func12
def ir93 : Ic := q (R (ox 1 0<|ow 2 false<|N) [0,2])<|q (R (oL 5 6 1<|oN 3 v6<|oS 6 3 5<|N) [5])<|q (q (R (of 6 1 0<|ol 7 6<|N) [6])<|D (.block 0<|q (R (oi 9 .eql 7 1<|om 8 9<|N) [9])<|I 8 (q (q (R (of 10 1 1<|ol 11 10<|oi 12 .neq 11 0<|om 13 12<|.sc 13 true (of 14 1 1<|ol 15 14<|oi 16 .neq 15 1<|N) (t 16) 17 N) [1,7,8,10,11,12,13])<|D (I 17 (q (R (ow 2 false<|N) [3,17])<|.ret) S) [17])<|R (of 18 3 1<|on (.sto none (t 18) (i 0))<|N) [18]) (q (q (R (oi 20 .eql 7 2<|om 19 20<|N) [8,20])<|I 19 S (q (R (oi 21 .eql 7 6<|om 19 21<|N) [21])<|I 19 S (R (oi 22 .eql 7 7<|om 19 22<|N) [22])))<|I 19 (R (of 23 3 1<|on (.sto none (t 23) (i 0))<|N) [1,7,19,23]) (q (R (oi 25 .eql 7 3<|om 24 25<|N) [19,25])<|I 24 (R (of 26 3 1<|on (.sto none (t 26) (i 0))<|of 27 3 2<|on (.sto none (t 27) (i 0))<|N) [1,7,24,26,27]) (q (R (oi 29 .eql 7 4<|om 28 29<|N) [24,29])<|I 28 (q (q (R (of 30 1 3<|ol 31 30<|cl 32 160 [t 31]<|og 33 32<|N) [1,7,28,30,31,32])<|D (I 33 (q (R (ow 2 false<|N) [3,33])<|.ret) S) [33])<|R (of 34 3 3<|on (.sto none (t 34) (.k (.str [])))<|N) [34]) (q (R (oi 36 .eql 7 5<|om 35 36<|N) [28,36])<|I 35 (R (of 37 3 3<|on (.sto none (t 37) (.k (.str [])))<|N) [1,7,35,37]) (q (R (oi 39 .eql 7 8<|om 38 39<|N) [35,39])<|I 38 (R (of 40 3 4<|on (.sto none (t 40) (.k (.nil 6)))<|N) [1,7,38,40]) (q (R (oi 42 .eql 7 9<|om 41 42<|N) [38,42])<|I 41 (q (q (R (oz 4 1<|N) [7,41])<|D (.block 1<|.loop (q (q (R (om 43 4<|of 44 1 5<|ol 45 44<|oh 46 45<|ot 47 .lss 43 46<|N) [43,44,45,46])<|D (I 47 S (E 1)) [47])<|q (D (.block 2<|q (R (of 50 1 5<|ol 51 50<|om 52 4<|oi 53 .sub 52 1<|oa true 54 7 51 53<|of 55 54 0<|ol 56 55<|of 57 1 5<|ol 58 57<|om 59 4<|oa true 60 7 58 59<|of 61 60 0<|ol 62 61<|ot 63 .sge 56 62<|N) [50,51,52,53,54,55,56,57,58,59,60,61,62])<|D (I 63 (q (R (ow 2 false<|N) [1,3,4,63])<|.ret) S) [63]) [])<|R (om 48 4<|oi 49 .add 48 1<|om 4 49<|N) [48,49])) [1,4,47])<|R (of 64 3 5<|on (.sto none (t 64) (.k (.nil 7)))<|N) [64]) (q (R (oi 66 .eql 7 10<|om 65 66<|N) [7,41,66])<|D (I 65 (q (q (R (of 67 1 4<|ol 68 67<|oh 69 68<|oi 70 .neq 69 1<|N) [1,65,67,68,69])<|D (I 70 (q (R (ow 2 false<|N) [3,70])<|.ret) S) [70])<|R (of 71 3 3<|on (.sto none (t 71) (.k (.str [])))<|of 72 3 4<|on (.sto none (t 72) (.k (.nil 6)))<|N) [71,72]) S) [1,65])))))))) [10,11,4])<|q (R (of 73 3 1<|ol 74 73<|oi 75 .eql 74 0<|om 76 75<|.sc 76 true (of 77 3 2<|ol 78 77<|oi 79 .eql 78 0<|N) (t 79) 80 (om 81 80<|.sc 81 true (of 82 3 3<|ol 83 82<|ob 84 .seq (t 83) (.k (.str []))<|N) (t 84) 85 (om 86 85<|.sc 86 true (of 87 3 4<|ol 88 87<|oh 89 88<|oi 90 .eql 89 0<|N) (t 90) 91 (om 92 91<|.sc 92 true (of 93 3 5<|ol 94 93<|oh 95 94<|oi 96 .eql 95 0<|N) (t 96) 97 (om 2 97<|N))))) [3,73,74,75,76,80,81,85,86,91,92,97])<|.ret
theorem ok93 : FT 93 98 ir93 [.tmp 2] := .o Tryz.func93
def ir98 : Ic := q (R (ox 2 0<|ox 3 1<|oN 4 vG<|ow 5 false<|N) [0,1,5])<|q (R (of 7 2 6<|ol 8 7<|oo 9 (.fnv (.func 165) [] [t 3])<|cl 10 164 [t 8,t 9]<|om 6 10<|N) [3,7,8,9,10])<|q (q (R (om 11 6<|oi 12 .lss 11 0<|N) [11])<|D (I 12 (q (R (oo 13 (.bld vG [])<|oS 11 4 13<|ow 5 false<|N) [2,6,12,13])<|.ret) S) [12])<|q (R (of 14 2 6<|ol 15 14<|om 16 6<|oa true 17 11 15 16<|oL 18 11 17<|oS 11 4 18<|ow 5 true<|N) [2,6,14,15,16,17,18])<|.ret
theorem ok98 : FT 98 19 ir98 [.cell 4 (some 11), .tmp 5] := .o Tryz.func98
def ir164 : Ic := q (R (oz 4 0<|N) [4])<|q (q (R (om 6 0<|oh 7 6<|oz 8 0<|N) [6])<|D (.block 0<|.loop (q (.reg (ot 9 .lss 8 7<|N))<|q (D (I 9 S (E 0)) [9])<|q (D (.block 1<|q (R (om 10 8<|om 5 10<|N) [10])<|q (R (om 11 1<|om 12 0<|om 13 5<|oa true 14 11 12 13<|oL 15 11 14<|.call (some 16) (.dyn (t 11)) [t 15] N) [11,12,13,14,15])<|D (I 16 (q (R (om 17 5<|om 4 17<|N) [0,1,7,8,5,16,17])<|.ret) S) [5,16]) [])<|R (oi 18 .add 8 1<|om 8 18<|N) [18])) [0,1,7,8,9,10,5,11])<|q (.reg (oz 4 (-1)<|N))<|.ret
theorem ok164 : FT 164 19 ir164 [.tmp 4] := .o Tryz.func164
def ir165 : Ic := q (R (ox 2 0<|ow 3 false<|N) [0,3])<|q (R (of 4 2 1<|ol 5 4<|ol 6 1<|ot 7 .seq 5 6<|om 3 7<|N) [2,4,5,6,7])<|.ret
theorem ok165 : FT 165 8 ir165 [.tmp 3] := .o Tryz.func165
def ir160 : Ic := q (R (ow 2 false<|N) [2])<|q (R (om 3 0<|cl 4 106 [t 3]<|om 2 4<|N) [0,3,4])<|.ret
theorem ok160 : FT 160 5 ir160 [.tmp 2] := .o Tryz.func160
def JOO : Ic := q (R (ox 3 0<|ox 4 1<|oN 6 v6<|N) [0,1])<|q (R (oL 16 6 4<|oN 7 v6<|oS 6 7 16<|N) [16])<|q (D (.block 0<|q (R (of 18 3 0<|ol 19 18<|oi 20 .eql 19 8<|om 21 20<|.sc 21 true (of 22 3 5<|ol 23 22<|oh 24 23<|oi 25 .eql 24 1<|N) (t 25) 26 (om 17 26<|N)) [18,19,20,21,26])<|I 17 (q (R (of 27 7 4<|on (.sto none (t 27) (.k (.nil 6)))<|N) [17,27])<|q (R (of 28 4 4<|ol 29 28<|oh 30 29<|oz 31 0<|N) [4,28])<|D (.block 1<|.loop (q (.reg (ot 32 .lss 31 30<|N))<|q (D (I 32 S (E 1)) [32])<|q (D (.block 2<|q (R (oa true 33 6 29 31<|oL 34 6 33<|oN 9 v6<|oS 6 9 34<|N) [33,34])<|D (.regd [(1,8),(1,9)] (of 35 7 4<|ol 36 35<|om 37 2<|of 38 3 5<|ol 39 38<|oo 40 (.ixa true 7 (t 39) (i 0))<|oL 41 7 40<|oL 42 6 9<|.call (some 43) (.dyn (t 37)) [t 41,t 42] (oo 44 (.bls 6 [t 43])<|oo 45 (.app 6 (t 36) (t 44))<|of 46 7 4<|os 46 45<|N))) [9,35,36,37,38,39,40,41,42,43,44,45,46]) [])<|R (oi 47 .add 31 1<|om 31 47<|N) [47])) [2,3,29,30,31,32,9]) (q (R (of 49 3 0<|ol 50 49<|oi 51 .eql 50 9<|om 48 51<|N) [17,49,50,51])<|I 48 (q (R (of 52 7 5<|on (.sto none (t 52) (.k (.nil 7)))<|N) [48,52])<|q (R (of 53 4 5<|ol 54 53<|oh 55 54<|oz 56 0<|N) [4,53])<|D (.block 3<|.loop (q (.reg (ot 57 .lss 56 55<|N))<|q (D (I 57 S (E 3)) [57])<|q (D (.block 4<|q (R (oa true 58 7 54 56<|oL 59 7 58<|oN 11 v7<|oS 7 11 59<|N) [58,59])<|q (q (R (oL 61 7 3<|of 62 11 0<|ol 63 62<|cl 64 98 [t 61,t 63]<|om 60 64<|oe 65 60 0<|oe 66 60 1<|oN 12 vG<|oS 11 12 65<|om 13 66<|N) [61,62,63,64,60,65,66])<|q (R (om 67 13<|N) [13])<|D (I 67 (R (om 68 2<|of 69 12 3<|oL 70 7 69<|of 71 11 1<|oL 72 6 71<|.call (some 73) (.dyn (t 68)) [t 70,t 72] (of 74 11 1<|oS 6 74 73<|N)) [12,67,68,69,70,71,72,73,74]) S) [12,67])<|R (of 75 7 5<|ol 76 75<|oL 77 7 11<|oo 78 (.bls 7 [t 77])<|oo 79 (.app 7 (t 76) (t 78))<|of 80 7 5<|os 80 79<|N) [11,75,76,77,78,79,80]) [])<|R (oi 81 .add 56 1<|om 56 81<|N) [81])) [2,3,54,55,56,57,11]) (q (R (of 83 3 0<|ol 84 83<|oi 85 .eql 84 10<|om 82 85<|N) [48,83,84,85])<|D (I 82 (q (R (oL 87 7 3<|of 88 4 3<|ol 89 88<|cl 90 98 [t 87,t 89]<|om 86 90<|oe 91 86 0<|oe 92 86 1<|oN 14 vG<|oS 11 14 91<|om 15 92<|N) [3,82,87,88,89,90,86,91,92])<|q (R (om 93 15<|N) [15])<|D (I 93 (R (om 94 2<|of 95 14 3<|oL 96 7 95<|of 97 4 4<|ol 98 97<|oo 99 (.ixa true 6 (t 98) (i 0))<|oL 100 6 99<|.call (some 101) (.dyn (t 94)) [t 96,t 100] (oo 102 (.bls 6 [t 101])<|of 103 7 4<|os 103 102<|N)) [2,4,14,93,94,95,96,97,98,99,100,101,102,103]) S) [2,4,14,93]) S) [2,3,4,82]))) [9,11])<|q (R (oL 104 6 7<|oS 6 6 104<|N) [7,104])<|.ret
theorem JOP : FT 157 105 JOO [.cell 6 (some 6)] := .o Tryz.func157
def ir91 : Ic := q (R (ox 2 0<|ox 3 1<|oN 4 v6<|N) [0,1])<|q (q (R (of 10 3 0<|ol 11 10<|of 12 2 0<|ol 13 12<|ot 14 .neq 11 13<|om 15 14<|.sc 15 false (oL 16 6 3<|cl 17 93 [t 16]<|og 18 17<|N) (t 18) 19 N) [10,11,12,13,14,15])<|D (I 19 (q (R (oL 20 6 3<|oS 6 4 20<|N) [2,3,19,20])<|.ret) S) [19])<|q (R (oL 21 7 2<|oL 22 6 3<|cl 23 157 [t 21,t 22,.k (.fn (.func 91) [] [])]<|oN 5 v6<|oS 6 5 23<|N) [3,21,22,23])<|q (q (R (of 24 2 0<|ol 25 24<|oi 26 .neq 25 9<|N) [24,25])<|D (I 26 (q (R (oL 27 6 5<|oS 6 4 27<|N) [2,5,26,27])<|.ret) S) [26])<|q (q (R (of 28 2 6<|ol 29 28<|oh 30 29<|oz 31 0<|N) [2,28])<|D (.block 0<|.loop (q (.reg (ot 32 .lss 31 30<|N))<|q (D (I 32 S (E 0)) [32])<|q (D (.block 1<|q (R (oa true 33 11 29 31<|oL 34 11 33<|oN 7 vG<|oS 11 7 34<|N) [33,34])<|q (q (R (of 35 7 2<|ol 36 35<|oi 37 .neq 36 3<|om 38 37<|.sc 38 false (of 39 7 10<|ol 40 39<|oh 41 40<|oi 42 .neq 41 1<|N) (t 42) 43 N) [35,36,37,38])<|D (I 43 (E 1) S) [43])<|q (R (of 45 5 5<|ol 46 45<|of 47 7 1<|ol 48 47<|cl 49 158 [t 46,t 48,.k (.fn (.func 159) [] [])]<|om 44 49<|oe 50 44 0<|oe 51 44 1<|om 8 50<|om 9 51<|N) [45,46,47,48,49,44,50,51])<|q (R (om 52 9<|og 53 52<|N) [9,52])<|D (I 53 (D (.regd [(1,10)] (of 54 5 5<|ol 55 54<|om 56 8<|of 57 7 1<|ol 58 57<|of 59 7 10<|ol 60 59<|oo 61 (.ixa true 6 (t 60) (i 0))<|oL 62 6 61<|oo 63 (.bld v7 [(0,1,t 58),(1,6,t 62)])<|oo 64 (.bls 7 [t 63])<|cl 65 156 [t 55,t 56,t 64]<|of 66 5 5<|os 66 65<|N)) [7,8,53,54,55,56,57,58,59,60,61,62,63,64,65,66]) S) [7,8,53]) [7,43,8,9])<|R (oi 67 .add 31 1<|om 31 67<|N) [67])) [29,30,31,32,7,8,9])<|q (R (oL 68 6 5<|oS 6 4 68<|N) [5,68])<|.ret
theorem ok91 : FT 91 69 ir91 [.cell 4 (some 6)] := .o Tryz.func91
def ir158 : Ic := q (R (oz 6 0<|ow 7 false<|N) [6,7])<|q (R (om 12 0<|oh 13 12<|om 8 13<|N) [12,13])<|q (R (om 14 8<|oz 9 0<|om 10 14<|N) [14])<|q (D (.block 0<|.loop (q (q (R (om 15 9<|om 16 10<|ot 17 .lss 15 16<|N) [15,16])<|D (I 17 S (E 0)) [17])<|D (.block 1<|q (R (om 18 9<|om 19 10<|ot 20 .add 18 19<|oo 21 (.cvi .u64 (t 20))<|oo 22 (.bit .shr (t 21) (.k (.int .u64 1)))<|oo 23 (.cvi .i64 (t 22))<|om 11 23<|N) [18,19,20,21,22,23])<|q (R (om 24 2<|om 25 0<|om 26 11<|oa true 27 7 25 26<|oL 28 7 27<|om 29 1<|.call (some 30) (.dyn (t 24)) [t 28,t 29] (oi 31 .lss 30 0<|N)) [24,25,26,27,28,29,30])<|I 31 (R (om 32 11<|oi 33 .add 32 1<|om 9 33<|N) [11,31,32,33]) (R (om 34 11<|om 10 34<|N) [11,31,34])) [])) [10,17,11])<|q (R (om 35 9<|om 36 9<|om 37 8<|ot 38 .lss 36 37<|om 39 38<|.sc 39 true (om 40 2<|om 41 0<|om 42 9<|oa true 43 7 41 42<|oL 44 7 43<|om 45 1<|.call (some 46) (.dyn (t 40)) [t 44,t 45] (oi 47 .eql 46 0<|N)) (t 47) 48 (om 6 35<|om 7 48<|N)) [0,1,2,8,9,35,36,37,38,39,48])<|.ret
theorem ok158 : FT 158 49 ir158 [.tmp 6, .tmp 7] := .o Tryz.func158
def ir159 : Ic := q (R (ox 2 0<|oz 4 0<|N) [0,4])<|q (R (of 5 2 0<|ol 6 5<|om 7 1<|cl 8 78 [t 6,t 7]<|om 4 8<|N) [1,2,5,6,7,8])<|.ret
theorem ok159 : FT 159 9 ir159 [.tmp 4] := .o Tryz.func159
def ir45 : Ic := q (R (ox 2 0<|ox 3 1<|oN 4 v6<|oz 5 0<|N) [0,1,5])<|q (R (oL 7 7 2<|oL 8 6 3<|cl 9 91 [t 7,t 8]<|oN 6 v6<|oS 6 6 9<|N) [3,7,8,9])<|q (q (R (oL 10 7 2<|oL 11 6 6<|cl 12 14 [t 10,t 11]<|og 13 12<|N) [2,10,11,12])<|D (I 13 (q (R (oo 14 (.bld v6 [])<|oS 6 4 14<|oz 5 18<|N) [6,13,14])<|.ret) S) [13])<|q (R (oL 15 6 6<|cl 16 55 [t 15]<|oS 6 4 16<|oz 5 0<|N) [6,15,16])<|.ret
theorem ok45 : FT 45 17 ir45 [.cell 4 (some 6), .tmp 5] := .o Tryz.func45
def ir14 : Ic := q (R (ox 2 0<|ox 3 1<|ow 4 false<|N) [0,1,4])<|q (.reg (oN 5 [.bool false]<|on (.sto none (t 5) (B true))<|N))<|q (R (oo 7 (.fnv (.func 46) [] [t 5])<|oo 8 (.bld [.nilFn,.bool false] [(0,1,t 7)])<|oN 6 [.nilFn,.bool false]<|oS 2 6 8<|N) [7,8])<|q (R (oL 9 7 2<|oL 10 6 3<|cl 11 47 [t 6,t 9,t 10,.k (.str [])]<|N) [2,3,6,9,10,11])<|q (R (ol 12 5<|om 4 12<|N) [5,12])<|.ret
theorem ok14 : FT 14 13 ir14 [.tmp 4] := .o Tryz.func14
def ir46 : Ic := q (R (ox 2 0<|ow 3 false<|N) [0,2,3])<|q (.reg (on (.sto none (t 1) (B false))<|N))<|q (.reg (ow 3 false<|N))<|.ret
theorem ok46 : FT 46 4 ir46 [.tmp 3] := .o Tryz.func46
def ir92 : Ic := q (R (om 6 0<|oc 7 6<|of 8 7 1<|ol 9 8<|og 10 9<|om 11 10<|.sc 11 true (om 12 0<|oc 13 12<|of 14 13 0<|ol 15 14<|om 16 1<|om 17 2<|oo 18 (.bld [.str [],.int .i64 0] [(0,1,t 16),(1,1,t 17)])<|.call (some 19) (.dyn (t 15)) [t 18] (og 20 19<|N)) (t 20) 21 N) [1,2,6,7,8,9,10,11])<|D (I 21 (R (om 22 0<|oc 23 22<|of 24 23 1<|on (.sto none (t 24) (B true))<|N) [0,21,22,23,24]) S) [0,21]
theorem ok92 : FT 92 25 ir92 [] := .o Tryz.func92
def ir94 : Ic := q (R (ox 5 1<|N) [1])<|q (R (om 8 3<|of 9 5 1<|ol 10 9<|ot 11 .lss 8 10<|om 12 11<|.sc 12 false (om 13 3<|of 14 5 2<|ol 15 14<|ot 16 .gtr 13 15<|N) (t 16) 17 N) [3,5,8,9,10,11,12])<|D (I 17 (R (om 18 0<|om 19 2<|cl 20 92 [t 18,t 19,i 2]<|N) [0,2,17,18,19,20]) S) [0,2,17]
theorem ok94 : FT 94 21 ir94 [] := .o Tryz.func94
def ir95 : Ic := q (R (ow 4 false<|N) [4])<|q (R (om 5 0<|om 6 1<|cl 7 161 [t 5,t 6]<|oi 8 .geq 7 0<|om 4 8<|N) [0,1,5,6,7,8])<|.ret
theorem ok95 : FT 95 9 ir95 [.tmp 4] := .o Tryz.func95
def ir161 : Ic := q (R (oz 4 0<|N) [4])<|q (q (R (om 6 0<|oh 7 6<|oz 8 0<|N) [6])<|D (.block 0<|.loop (q (.reg (ot 9 .lss 8 7<|N))<|q (D (I 9 S (E 0)) [9])<|q (D (.block 1<|q (R (om 10 8<|om 5 10<|N) [10])<|q (R (om 11 1<|om 12 0<|om 13 5<|oa false 14 1 12 13<|ol 15 14<|ot 16 .seq 11 15<|N) [11,12,13,14,15])<|D (I 16 (q (R (om 17 5<|om 4 17<|N) [0,1,7,8,5,16,17])<|.ret) S) [5,16]) [])<|R (oi 18 .add 8 1<|om 8 18<|N) [18])) [0,1,7,8,9,10,5,11])<|q (.reg (oz 4 (-1)<|N))<|.ret
theorem ok161 : FT 161 19 ir161 [.tmp 4] := .o Tryz.func161
def ir97 : Ic := q (R (ox 5 1<|ox 6 2<|N) [1,2])<|q (q (R (of 16 5 6<|ol 17 16<|oh 18 17<|oz 19 0<|N) [16])<|D (.block 0<|.loop (q (.reg (ot 20 .lss 19 18<|N))<|q (D (I 20 S (E 0)) [20])<|q (D (.block 1<|q (R (oa true 21 11 17 19<|oL 22 11 21<|oN 9 vG<|oS 11 9 22<|N) [21,22])<|q (R (oL 24 6 6<|of 25 9 1<|ol 26 25<|cl 27 89 [t 24,t 26]<|om 23 27<|oe 28 23 0<|oe 29 23 1<|oN 10 v6<|oS 6 10 28<|om 11 29<|N) [24,25,26,27,23,28,29])<|q (R (om 30 11<|N) [11])<|I 30 (D (.regd [(2,7),(3,7)] (om 31 0<|of 32 9 3<|oL 33 7 32<|oL 34 6 10<|om 35 3<|of 36 9 1<|ol 37 36<|cl 38 163 [t 35,t 37]<|cl 39 47 [t 31,t 33,t 34,t 38]<|N)) [9,10,30,31,32,33,34,35,36,37,38,39]) (q (R (of 40 9 2<|ol 41 40<|oi 42 .neq 41 2<|N) [10,30,40,41])<|D (I 42 (R (om 43 0<|om 44 3<|of 45 9 1<|ol 46 45<|cl 47 163 [t 44,t 46]<|cl 48 92 [t 43,t 47,i 5]<|N) [9,42,43,44,45,46,47,48]) S) [9,42])) [])<|R (oi 49 .add 19 1<|om 19 49<|N) [49])) [17,18,19,20,9,10,11])<|q (R (of 50 6 5<|ol 51 50<|oh 52 51<|oz 53 0<|N) [6,50])<|D (.block 2<|.loop (q (.reg (ot 54 .lss 53 52<|N))<|q (D (I 54 S (E 2)) [54])<|q (D (.block 3<|q (R (oa true 55 7 51 53<|oL 56 7 55<|oN 13 v7<|oS 7 13 56<|N) [55,56])<|q (R (oL 58 7 5<|of 59 13 0<|ol 60 59<|cl 61 98 [t 58,t 60]<|om 57 61<|oe 62 57 0<|oe 63 57 1<|oN 14 vG<|oS 11 14 62<|om 15 63<|N) [58,59,60,61,57,62,63,14])<|q (R (om 64 15<|og 65 64<|N) [15,64])<|D (I 65 (R (om 66 0<|om 67 3<|of 68 13 0<|ol 69 68<|cl 70 163 [t 67,t 69]<|cl 71 92 [t 66,t 70,i 6]<|N) [13,65,66,67,68,69,70,71]) S) [13,65]) [])<|R (oi 72 .add 53 1<|om 53 72<|N) [72])) [0,3,5,51,52,53,54]
theorem ok97 : FT 97 73 ir97 [] := .o Tryz.func97
def ir163 : Ic := q (R (ok 4 (.k (.str []))<|N) [4])<|q (q (R (om 5 0<|ob 6 .seq (t 5) (.k (.str []))<|N) [5])<|D (I 6 (q (R (om 7 1<|om 4 7<|N) [0,1,6,7])<|.ret) S) [6])<|q (R (om 8 0<|ob 9 .cat (t 8) (.k (.str [46]))<|om 10 1<|ot 11 .cat 9 10<|om 4 11<|N) [0,1,8,9,10,11])<|.ret
theorem ok163 : FT 163 12 ir163 [.tmp 4] := .o Tryz.func163
def ir156 : Ic := q (R (ok 6 (.k (.nil 7))<|N) [6])<|q (R (om 10 0<|om 11 1<|oo 12 (.slc 7 (t 10) (some (t 11)) none none)<|N) [10,11,12])<|q (R (om 13 2<|oh 14 13<|om 7 14<|N) [13,14])<|q (q (R (om 15 7<|oi 16 .eql 15 0<|N) [15])<|D (I 16 (q (R (om 17 0<|om 6 17<|N) [0,1,2,7,16,17])<|.ret) S) [16])<|q (R (om 18 0<|oh 19 18<|om 8 19<|N) [18,19])<|q (q (R (om 20 1<|om 21 8<|ot 22 .eql 20 21<|N) [20,21])<|D (I 22 (q (R (om 23 0<|om 24 2<|oo 25 (.app 7 (t 23) (t 24))<|om 6 25<|N) [0,1,2,7,8,22,23,24,25])<|.ret) S) [22])<|q (q (R (om 26 8<|om 27 7<|ot 28 .add 26 27<|om 29 0<|oo 30 .bad<|ot 31 .gtr 28 30<|N) [26,27,28,29,30])<|D (I 31 (q (R (om 32 0<|om 33 1<|oo 34 (.slc 7 (t 32) none (some (t 33)) none)<|om 35 8<|om 36 7<|ot 37 .add 35 36<|om 38 1<|ot 39 .sub 37 38<|oo 40 .bad<|om 9 40<|N) [8,31,32,33,34,35,36,37,38,39,40])<|q (R (om 41 9<|om 42 1<|oo 43 (.slc 7 (t 41) (some (t 42)) none none)<|om 44 2<|oo 45 .bad<|N) [2,41,42,43,44,45])<|q (R (om 46 9<|om 47 1<|om 48 7<|ot 49 .add 47 48<|oo 50 (.slc 7 (t 46) (some (t 49)) none none)<|om 51 0<|om 52 1<|oo 53 (.slc 7 (t 51) (some (t 52)) none none)<|oo 54 .bad<|N) [0,1,7,46,47,48,49,50,51,52,53,54])<|q (R (om 55 9<|om 6 55<|N) [9,55])<|.ret) S) [31])<|q (R (om 56 0<|om 57 8<|om 58 7<|ot 59 .add 57 58<|oo 60 (.slc 7 (t 56) none (some (t 59)) none)<|om 0 60<|N) [56,57,58,59,60])<|q (q (R (om 61 2<|om 62 0<|om 63 1<|om 64 7<|ot 65 .add 63 64<|oo 66 (.slc 7 (t 62) (some (t 65)) none none)<|cl 67 224 [t 61,t 66]<|og 68 67<|N) [61,62,63,64,65,66,67])<|D (I 68 (q (R (om 69 0<|om 70 1<|om 71 7<|ot 72 .add 70 71<|oo 73 (.slc 7 (t 69) (some (t 72)) none none)<|om 74 0<|om 75 1<|oo 76 (.slc 7 (t 74) (some (t 75)) none none)<|oo 77 .bad<|N) [7,8,68,69,70,71,72,73,74,75,76,77])<|q (R (om 78 0<|om 79 1<|oo 80 (.slc 7 (t 78) (some (t 79)) none none)<|om 81 2<|oo 82 .bad<|N) [1,2,78,79,80,81,82])<|q (R (om 83 0<|om 6 83<|N) [0,83])<|.ret) S) [68])<|q (R (om 84 0<|om 85 8<|oo 86 (.slc 7 (t 84) (some (t 85)) none none)<|om 87 2<|oo 88 .bad<|N) [2,8,84,85,86,87,88])<|q (R (om 89 0<|om 90 1<|oo 91 (.slc 7 (t 89) (some (t 90)) none none)<|om 92 7<|cl 93 225 [t 91,t 92]<|N) [1,7,89,90,91,92,93])<|q (R (om 94 0<|om 6 94<|N) [0,94])<|.ret
theorem ok156 : FT 156 95 ir156 [.tmp 6] := .o Tryz.func156
def ir11 : Ic := q (R (ox 1 0<|ow 2 false<|N) [0,2])<|q (.reg (oN 3 [.int .i64 0]<|on (.sto none (t 3) (i 200))<|N))<|q (R (oL 4 7 1<|cl 5 40 [t 4,i 12,t 3]<|om 2 5<|N) [1,3,4,5])<|.ret
theorem ok11 : FT 11 6 ir11 [.tmp 2] := .o Tryz.func11
def ir40 : Ic := q (R (ox 3 0<|ow 6 false<|N) [0,6])<|q (R (om 12 2<|oc 13 12<|ol 14 13<|oi 15 .sub 14 1<|oc 16 12<|os 16 15<|N) [12,13,14,15,16])<|q (q (R (om 17 2<|oc 18 17<|ol 19 18<|oi 20 .lss 19 0<|om 21 20<|.sc 21 false (om 22 1<|oi 23 .eql 22 0<|N) (t 23) 24 (om 25 24<|.sc 25 false (of 26 3 4<|ol 27 26<|oh 28 27<|oi 29 .gtr 28 70<|N) (t 29) 30 N)) [17,18,19,20,21,24,25])<|D (I 30 (q (R (ow 6 false<|N) [1,2,3,30])<|.ret) S) [30])<|q (q (.reg (oz 7 0<|N))<|D (.block 0<|.loop (q (q (R (om 31 7<|of 32 3 4<|ol 33 32<|oh 34 33<|ot 35 .lss 31 34<|N) [31,32,33,34])<|D (I 35 S (E 0)) [35])<|q (D (.block 1<|q (R (of 38 3 4<|ol 39 38<|om 40 7<|oa false 41 1 39 40<|ol 42 41<|oj 43 42<|oi 44 .gtr 43 2000<|N) [38,39,40,41,42,43])<|D (I 44 (q (R (ow 6 false<|N) [1,2,3,7,44])<|.ret) S) [44]) [])<|R (om 36 7<|oi 37 .add 36 1<|om 7 37<|N) [36,37])) [7,35])<|q (q (.reg (oz 8 0<|N))<|D (.block 2<|.loop (q (q (R (om 45 8<|of 46 3 5<|ol 47 46<|oh 48 47<|ot 49 .lss 45 48<|N) [45,46,47,48])<|D (I 49 S (E 2)) [49])<|q (D (.block 3<|q (R (of 52 3 5<|ol 53 52<|om 54 8<|oa true 55 7 53 54<|oL 56 7 55<|om 57 1<|oi 58 .sub 57 1<|om 59 2<|cl 60 40 [t 56,t 58,t 59]<|og 61 60<|N) [52,53,54,55,56,57,58,59,60])<|D (I 61 (q (R (ow 6 false<|N) [1,2,3,8,61])<|.ret) S) [61]) [])<|R (om 50 8<|oi 51 .add 50 1<|om 8 51<|N) [50,51])) [8,49])<|q (q (.reg (oz 9 0<|N))<|D (.block 4<|.loop (q (q (R (om 62 9<|of 63 3 6<|ol 64 63<|oh 65 64<|ot 66 .lss 62 65<|N) [62,63,64,65])<|D (I 66 S (E 4)) [66])<|q (D (.block 5<|q (R (of 69 3 6<|ol 70 69<|om 71 9<|oa true 72 11 70 71<|oL 73 11 72<|oN 10 vG<|oS 11 10 73<|N) [69,70,71,72,73])<|q (q (R (of 74 10 3<|oL 75 7 74<|om 76 1<|oi 77 .sub 76 1<|om 78 2<|cl 79 40 [t 75,t 77,t 78]<|og 80 79<|om 81 80<|.sc 81 false (of 82 10 10<|ol 83 82<|oh 84 83<|oi 85 .gtr 84 3<|N) (t 85) 86 (om 87 86<|.sc 87 false (of 88 10 1<|ol 89 88<|oj 90 89<|oi 91 .gtr 90 100<|N) (t 91) 92 N)) [74,75,76,77,78,79,80,81,86,87])<|D (I 92 (q (R (ow 6 false<|N) [1,2,3,9,10,92])<|.ret) S) [92])<|q (.reg (oz 11 0<|N))<|D (.block 6<|.loop (q (q (R (om 93 11<|of 94 10 10<|ol 95 94<|oh 96 95<|ot 97 .lss 93 96<|N) [93,94,95,96])<|D (I 97 S (E 6)) [97])<|q (D (.block 7<|q (R (of 100 10 10<|ol 101 100<|om 102 11<|oa true 103 6 101 102<|oL 104 6 103<|cl 105 10 [t 104]<|og 106 105<|N) [100,101,102,103,104,105])<|D (I 106 (q (R (ow 6 false<|N) [1,2,3,9,10,11,106])<|.ret) S) [106]) [])<|R (om 98 11<|oi 99 .add 98 1<|om 11 99<|N) [98,99])) [10,11,97]) [])<|R (om 67 9<|oi 68 .add 67 1<|om 9 68<|N) [67,68])) [1,2,3,9,66,10,11])<|q (.reg (ow 6 true<|N))<|.ret
theorem ok40 : FT 40 107 ir40 [.tmp 6] := .o Tryz.func40
end Go.Proofs
namespace Go.Proofs
open Go Av Go.RowKit
theorem JOQ {vs : Array Value} (h : 2 = vs.size) : ∃ x y, vs = #[x, y] := by
 refine ⟨vs[0], vs[1], ?_⟩;apply Array.ext
 ·simp [← h]
 ·intro i h1 h2;have : i = 0 ∨ i = 1 := oM;rcases this with rfl | rfl <;> rfl
theorem JKk : ∀ n : Nat, Lib.repeatL [48] n = List.replicate n 48
 | 0 => rfl
 | n + 1 => by rw [Lib.repeatL, JKk n, List.replicate_succ]; rfl
theorem JKl : JFN := by
 intro n h0 h1;refine JQ.JE6 (ds := [.str [48], .int .i64 n]) (JHu Tryz.func291 kR kR) ?_;intro A w vs hl hv;obtain ⟨x, y, rfl⟩ := JOQ hl;have hx := hv 0 _ x rfl rfl;have hy := hv 1 _ y rfl rfl;cases hx;cases hy;obtain ⟨c, rfl⟩ : ∃ c : Nat, n = (c : Int) := ⟨n.toNat, oM⟩;have hsz : (⟨([48] : Str).toArray⟩ : ByteArray).size = 1 := rfl;refine (Any.strings_Repeat Tryz.JSu Tryz.JCI ⟨([48] : Str).toArray⟩ c w oM (by rw [hsz]; omega)).mono ?_;rintro e w' ⟨rfl, hb⟩;refine ⟨_, rfl, hb, fun β H => .d _ _ ?_⟩;have e1 : (⟨([48] : Str).toArray⟩ : ByteArray).data.toList = [48] := rfl;rw [e1, JKk];have : JFM (c : Int) = List.replicate c 48 := by simp [JFM]
 rw [this];exact .str _ sO
def dgo (s : Str) : Nat × Nat := Lib.decodeGo ⟨s.toArray⟩
theorem i32b {v : Nat} (h : v ≤ 2147483647) : IntKind.i32.min ≤ (v : Int) ∧ (v : Int) ≤ IntKind.i32.max := by
 have e1 : IntKind.i32.min = -2147483648 := dC;have e2 : IntKind.i32.max = 2147483647 := dC;rw [e1, e2]; omega
theorem call287 (s : Str) (hr : (dgo s).1 ≤ 2147483647) (hn : (dgo s).2 ≤ 4) : CT 287 [.d (.str s)] [] (.tup [.d (.int .i32 (dgo s).1), .d (.int .i64 (dgo s).2)]) [] := by
 refine JQ.JAj (ds := [.str s]) (JHu Tryz.func287 kR kR) ?_;intro A w vs hg hl hv;obtain ⟨x, rfl⟩ := JBr hl;have hx := hv 0 _ x rfl rfl;cases hx with
 | str _ h =>
  refine (Any.utf8_DecodeRuneInString Tryz.JSv ⟨s.toArray⟩ w (utabs hg)).mono ?_;rintro e' w' ⟨rfl, hb⟩;exact ⟨_, rfl, hb, fun β H => Z8 (.int _ _ (i32b hr)) (.int _ _ (JQ8 oM oM))⟩
theorem JKm (s : Str) : PT 160 [.str s] (.d (.bool (Za s))) := by
 refine ok160.pc ?_;simp only [go_sem, ir160, simprocAttr];refine wc (call106 s) trivial
end Go.Proofs
namespace Go.Proofs
open Go Av
def Ux (v : Val) : Int :=
 if v.kind = 1 then btw v.int 0 1 else if v.kind = 2 then btw v.int (-999999999999999) 999999999999999
 else if v.kind = 3 then JGZ [btw v.int (-999999999999999) 999999999999999, btw v.scale 0 12] else if v.kind = 4 then JEf v else if v.kind = 5 then szE v.text.length 1024 5
 else if v.kind = 6 then btw v.int (-719162) 2932896 else if v.kind = 7 then btw v.int (-62135596800000) 253402300799999 else if v.kind = 8 then szE v.list.length 256 9
 else if v.kind = 9 then JOM v else JLd v
def YL (n level : Int) (v : Val) : Int :=
 if decide (n > 4096) then 9 else if decide (level > 8) then 23 else if Uh v then 19 else if decide (v.kind < 1) || decide (v.kind > 10) then 11 else if !JKg v then 3 else Ux v
def Uo : List Dat := [.nilFn, .fn (.func 99) [] [], .fn (.func 101) [] [], .fn (.func 102) [] [], .fn (.func 104) [] [], .fn (.func 107) [] [], .fn (.func 108) [] [], .fn (.func 109) [] [], .fn (.func 110) [] [], .fn (.func 111) [] [], .fn (.func 113) [] []]
theorem walk48 : PT 48 [] (.d (.agg Uo)) := by
 refine ok48.pc ?_;simp only [go_sem, ir48, simprocAttr];rfl
theorem walk49 (v : Val) : PT 49 [JB v] (.d (.fn (.func 114) [] [.ptr (JB v).cells])) := by
 refine ok49.pc ?_;rw [JA];simp only [go_sem, ir49, simprocAttr];simp only [go_sem, decide_eq_true_eq, reduceCtorEq, ↓reduceIte]
noncomputable def lpL (tm : List (Nat × Av)) (s : LoopState) (j : Option Code) : Lp := ⟨tm, 46, #[11, 12], Xs (U3 Tryz.f15) [1, 1, 1, 0, 1, 0, 0], Xs (U3 Tryz.f15) [1, 1, 1, 0, 1, 0, 1], s, j⟩
def tmL (c : Dat) : List (Nat × Av) := [(2, .ref 1002 0), (3, .ref 1003 0), (4, .ref 1004 0), (10, .d c)]
noncomputable abbrev TL (c : Dat) (e n : Int) : List (Nat × Av.Obj) := [(1000, .lp (lpL (tmL c) .ready none)), (1002, .box [.d (.int .i64 e)]), (1003, .box (Uo.map .d)), (1004, .box [.d (.int .i64 n)])]
noncomputable def XB (c : Dat) (x : Int) : Av.Obj := if x = 0 then .lp (lpL (tmL c) .ready none) else .lp (lpL (tmL c) .done (some .ret))
theorem JRs (c : Dat) (e n level : Int) (v : Val) (hn : 0 ≤ n ∧ n ≤ 4096) :
  JDI Tryz.prog 1000 [.d (.int .i64 level), .d (JB v)] (TL c e n) (.d (.bool (YL (n + 1) level v == 0)))
   [(1000, XB c (YL (n + 1) level v)), (1002, .box [.d (.int .i64 (if YL (n + 1) level v = 0 then e else YL (n + 1) level v))]), (1004, .box [.d (.int .i64 (n + 1))])] := by
 refine JDI.Ze (asg := JNp) (body := JJM) rfl rfl kR kR rfl (show ∀ p ∈ [11, 12], p < 46 by decide) ?_ ?_
 ·refine Jd ?_;unfold XB;split <;> simp [TL, UA, put, Jc, J4, JP, JW, U9, tmL, lpL, Uo, Av.get]
 ·rw [JA];generalize hx : YL (n + 1) level v = x;generalize hD : (fun i => (get (TL c e n) i).isSome = true) = D;generalize hK : JFg 1000 (TL c e n) D (.d (.bool (x == 0))) _ = K;have hw : IntKind.i64.wrap (n + 1) = n + 1 := wrap64 oM oM;have leaf : x ≠ 0 → ∀ cs, K .ret ⟨[], [(1000, .lp (lpL (tmL c) .busy none)), (1002, .box [.d (.int .i64 x)]), (1003, .box (Uo.map .d)), (1004, .box [.d (.int .i64 (n + 1))]), (6, .box cs)]⟩ := by
   intro h0 cs;have hb : (x == 0) = false := by simp [h0]
   rw [← hK, ← hD, hb];refine ⟨_, _, rfl, rfl, ⟨[], [(1000, .lp (lpL (tmL c) .done (some .ret))), (1002, .box [.d (.int .i64 x)]), (1003, .box (Uo.map .d)), (1004, .box [.d (.int .i64 (n + 1))])]⟩, Wk.less ?_, ?_⟩
   ·simp [put, tmL, lpL, Uo, go_sem]
   ·intro i o h;rw [← h, ← Jg];simp [UA, put, XB, h0]
  have leaf0 : x = 0 → ∀ cs, K .normal ⟨[], [(1000, .lp (lpL (tmL c) .busy none)), (1002, .box [.d (.int .i64 e)]), (1003, .box (Uo.map .d)), (1004, .box [.d (.int .i64 (n + 1))]), (6, .box cs)]⟩ := by
   intro h0 cs;have hb : (x == 0) = true := by simp [h0]
   rw [← hK, ← hD, hb];refine ⟨_, _, rfl, rfl, ⟨[], [(1000, .lp (lpL (tmL c) .ready none)), (1002, .box [.d (.int .i64 e)]), (1003, .box (Uo.map .d)), (1004, .box [.d (.int .i64 (n + 1))])]⟩, Wk.less ?_, ?_⟩
   ·simp [put, tmL, lpL, Uo, go_sem]
   ·intro i o h;rw [← h, ← Jg];simp [UA, put, XB, h0]
  clear hK hD;simp only [TL, lpL, tmL, JNp, JJM, hw, go_sem, simprocAttr];refine ⟨_, rfl, rfl, ?_⟩;have c29 := (JAC v).call trivial;rw [JA] at c29;refine ⟨fun h1 => ?_, fun h1 => ⟨fun h2 => ?_, fun h2 => wn c29 ?_⟩⟩
  ·obtain rfl : x = 9 := by rw [← hx, YL, if_pos h1]
   exact leaf dC _
  ·obtain rfl : x = 23 := by rw [← hx, YL, if_neg (by simp [h1]), if_pos h2]
   exact leaf dC _
  rw [YL, if_neg (by simp [h1]), if_neg (by simp [h2])] at hx;refine zz ?_;apply ik <;> intro h3
  ·obtain rfl : x = 19 := by rw [← hx, if_pos h3]
   exact leaf dC _
  rw [if_neg (by simp [h3])] at hx;refine sq (decide (v.kind > 10)) ?_ ?_
  ·exact zz trivial
  have c92 := (walk50 v).call trivial;rw [JA] at c92;refine zz ?_;refine ⟨fun h4 => ?_, fun h4 => wn c92 ?_⟩
  ·obtain rfl : x = 11 := by rw [← hx, if_pos h4]
   exact leaf dC _
  rw [if_neg (by simp only [h4]; decide)] at hx;refine zz ?_;apply ik <;> intro h5
  ·obtain rfl : x = 3 := by rw [← hx, if_pos h5]
   exact leaf dC _
  rw [if_neg (by simp [h5])] at hx;obtain ⟨k1, k2⟩ : 1 ≤ v.kind ∧ v.kind ≤ 10 := by simp at h4; omega
  have hk : v.kind = 1 ∨ v.kind = 2 ∨ v.kind = 3 ∨ v.kind = 4 ∨ v.kind = 5 ∨ v.kind = 6 ∨ v.kind = 7 ∨ v.kind = 8 ∨ v.kind = 9 ∨ v.kind = 10 := oM;rcases hk with hk | hk | hk | hk | hk | hk | hk | hk | hk | hk
  ·have cr := (walk99 v).call trivial;have hr : Ux v = btw v.int 0 1 := by simp [Ux, hk]
   rw [JA, hk, ← hr, hx] at cr;refine JFD ?_;refine ⟨⟨dC, dC⟩, wn cr ?_⟩;refine zz ?_;exact ⟨fun h6 => leaf (sX h6) _, fun h6 => leaf0 (sX h6) _⟩
  ·have cr := (JRO v).call trivial;have hr : Ux v = btw v.int (-999999999999999) 999999999999999 := by simp [Ux, hk]
   rw [JA, hk, ← hr, hx] at cr;refine JFD ?_;refine ⟨⟨dC, dC⟩, wn cr ?_⟩;refine zz ?_;exact ⟨fun h6 => leaf (sX h6) _, fun h6 => leaf0 (sX h6) _⟩
  ·have cr := (JRU v).call trivial;have hr : Ux v = JGZ [btw v.int (-999999999999999) 999999999999999, btw v.scale 0 12] := by simp [Ux, hk]
   rw [JA, hk, ← hr, hx] at cr;refine JFD ?_;refine ⟨⟨dC, dC⟩, wn cr ?_⟩;refine zz ?_;exact ⟨fun h6 => leaf (sX h6) _, fun h6 => leaf0 (sX h6) _⟩
  ·have cr := (JRp v).call trivial;have hr : Ux v = JEf v := by simp [Ux, hk]
   rw [JA, hk, ← hr, hx] at cr;refine JFD ?_;refine ⟨⟨dC, dC⟩, wn cr ?_⟩;refine zz ?_;exact ⟨fun h6 => leaf (sX h6) _, fun h6 => leaf0 (sX h6) _⟩
  ·have cr := (JRR v).call trivial;have hr : Ux v = szE v.text.length 1024 5 := by simp [Ux, hk]
   rw [JA, hk, ← hr, hx] at cr;refine JFD ?_;refine ⟨⟨dC, dC⟩, wn cr ?_⟩;refine zz ?_;exact ⟨fun h6 => leaf (sX h6) _, fun h6 => leaf0 (sX h6) _⟩
  ·have cr := (JRP v).call trivial;have hr : Ux v = btw v.int (-719162) 2932896 := by simp [Ux, hk]
   rw [JA, hk, ← hr, hx] at cr;refine JFD ?_;refine ⟨⟨dC, dC⟩, wn cr ?_⟩;refine zz ?_;exact ⟨fun h6 => leaf (sX h6) _, fun h6 => leaf0 (sX h6) _⟩
  ·have cr := (JRQ v).call trivial;have hr : Ux v = btw v.int (-62135596800000) 253402300799999 := by simp [Ux, hk]
   rw [JA, hk, ← hr, hx] at cr;refine JFD ?_;refine ⟨⟨dC, dC⟩, wn cr ?_⟩;refine zz ?_;exact ⟨fun h6 => leaf (sX h6) _, fun h6 => leaf0 (sX h6) _⟩
  ·have cr := (JRS v).call trivial;have hr : Ux v = szE v.list.length 256 9 := by simp [Ux, hk]
   rw [JA, hk, ← hr, hx] at cr;refine JFD ?_;refine ⟨⟨dC, dC⟩, wn cr ?_⟩;refine zz ?_;exact ⟨fun h6 => leaf (sX h6) _, fun h6 => leaf0 (sX h6) _⟩
  ·have cr := (JRr v).call trivial;have hr : Ux v = JOM v := by simp [Ux, hk]
   rw [JA, hk, ← hr, hx] at cr;refine JFD ?_;refine ⟨⟨dC, dC⟩, wn cr ?_⟩;refine zz ?_;exact ⟨fun h6 => leaf (sX h6) _, fun h6 => leaf0 (sX h6) _⟩
  ·have cr := (JRq v).call trivial;have hr : Ux v = JLd v := by simp [Ux, hk]
   rw [JA, hk, ← hr, hx] at cr;refine JFD ?_;refine ⟨⟨dC, dC⟩, wn cr ?_⟩;refine zz ?_;exact ⟨fun h6 => leaf (sX h6) _, fun h6 => leaf0 (sX h6) _⟩
end Go.Proofs
namespace Go.Proofs
open Go Av
variable {n : Int}
noncomputable abbrev JBD (c : Dat) (e x n : Int) : List (Nat × Av.Obj) := [(1000, XB c x), (1002, .box [.d (.int .i64 (if x = 0 then e else x))]), (1004, .box [.d (.int .i64 n)])]
theorem JAZ (c : Dat) (e n x m : Int) : closed (JD (get (TL c e n)) (JBD c e x m)) := by
 refine Jd ?_;simp only [JBD, TL];unfold XB;split <;> simp [TL, UA, put, Jc, J4, JP, JW, U9, tmL, lpL, Uo, Av.get]
theorem JGj (c : Dat) (e n : Int) : closed (get (TL c e n)) := by
 refine UZ ?_;simp [TL, Jc, J4, JP, JW, U9, tmL, lpL, Uo, Av.get]
theorem JJW {c : Dat} {e : Int} {i : Nat} (h : (get (TL c e n) i).isSome = true) : i = 1000 ∨ i = 1002 ∨ i = 1003 ∨ i = 1004 := by
 simp only [TL, Av.get] at h;split at h
 ·rename_i e; exact .inl e.symm
 ·split at h
  ·rename_i e; exact .inr (.inl e.symm)
  ·split at h
   ·rename_i e; exact .inr (.inr (.inl e.symm))
   ·split at h
    ·rename_i e; exact .inr (.inr (.inr e.symm))
    ·cases h
theorem JEg (ds : List Dat) : J1 (fun i : Nat => i) (ds.map .d) = ds.map .d := by
 induction ds with
 | nil => rfl
 | cons d r ih => simp only [Va, J1, Av.ren, ih]
theorem JKn (c : Dat) (e n level : Int) (v : Val) (hn : 0 ≤ n ∧ n ≤ 4096) :
  CT .yld [.mp 1000, .d (.int .i64 level), .d (JB v)] ((TL c e n).map fun x => (x.1, some x.2)) (.d (.bool (YL (n + 1) level v == 0))) (JBD c e (YL (n + 1) level v) (n + 1)) := by
 have := (JRs c e n level v hn).call (fun i => i) ⟨_, rfl⟩ (fun i j _ _ h => h) (by simp [JW]) (JGj c e n) [] (by simp [Av.get]) (JAZ c e n _ _) trivial;have ha : ∀ x, (XB c x).ren (fun i => i) = XB c x := by
  intro x;unfold XB;split <;> simp [Obj.ren, YJ, tmL, lpL, Av.ren]
 simp only [ha, JBD, Va, Vb] at this;simp only [TL, JBD, Va, Vb, Obj.ren, Av.ren, J1, JEg, lpL, tmL, YJ, List.append_nil] at this ⊢;exact this
def JAE (f : Int → Val → Int × Int) : Int → List Val → Int × Int
 | n, [] => (0, n)
 | n, v :: r => if (f n v).1 ≠ 0 then f n v else JAE f (f n v).2 r
def YB : Nat → Int → Val → Int × Int
 | 0, n, v => (YL (n + 1) 9 v, n + 1)
 | k + 1, n, v => if YL (n + 1) (8 - k) v ≠ 0 then (YL (n + 1) (8 - k) v, n + 1) else JAE (YB k) (n + 1) (Xt v)
theorem chk9 (n : Int) (v : Val) : YL n 9 v ≠ 0 := by
 unfold YL;split
 ·decide
 ·rw [if_pos dC]; decide
theorem chk_n {level : Int} {v : Val} (h : YL n level v = 0) : n ≤ 4096 := by
 unfold YL at h;split at h
 ·cases h
 ·rename_i hx; simpa using hx
theorem JKo {f : Int → Val → Int × Int} (hf : ∀ n v, 0 ≤ n → n ≤ 4096 → (f n v).1 = 0 → 0 ≤ (f n v).2 ∧ (f n v).2 ≤ 4096) : ∀ (l : List Val) (n : Int), 0 ≤ n → n ≤ 4096 → (JAE f n l).1 = 0 → 0 ≤ (JAE f n l).2 ∧ (JAE f n l).2 ≤ 4096
 | [], n, h0, h1, h => ⟨h0, h1⟩
 | v :: r, n, h0, h1, h => by
  simp only [JAE] at h ⊢;split at h
  ·rename_i hx; exact absurd h hx
  ·rename_i hx;rw [if_neg hx];simp only [ne_eq, Decidable.not_not] at hx;obtain ⟨q0, q1⟩ := hf n v h0 h1 hx;exact JKo hf r _ q0 q1 h
theorem JOR : ∀ (k : Nat) (n : Int) (v : Val), 0 ≤ n → n ≤ 4096 → (YB k n v).1 = 0 → 0 ≤ (YB k n v).2 ∧ (YB k n v).2 ≤ 4096
 | 0, n, v, h0, h1, h => absurd h (chk9 _ _)
 | k + 1, n, v, h0, h1, h => by
  simp only [YB] at h ⊢;split at h
  ·rename_i hx; exact absurd h hx
  ·rename_i hx;rw [if_neg hx];simp only [ne_eq, Decidable.not_not] at hx;exact JKo (JOR k) _ _ oM (chk_n hx) h
theorem JKp (c : Dat) (e n level : Int) (v : Val) (h0 : 0 ≤ n) (h1 : n ≤ 4096) (hx : YL (n + 1) level v ≠ 0) :
  KT 115 [.d (JB v), .d (.int .i64 level), .mp 1000] (TL c e n) (.d (.bool false)) (JBD c e (YL (n + 1) level v) (n + 1)) := by
 refine JNs.co (k := false) (JAZ c e n _ _) trivial ?_;have hy := JKn c e n level v ⟨h0, h1⟩;have hb : (YL (n + 1) level v == 0) = false := by simp [hx]
 rw [JA] at hy ⊢;rw [hb] at hy;simp only [TL, go_sem, JNr, simprocAttr];refine UU rfl hy ⟨rfl, rfl, rfl, rfl, trivial⟩ ?_;refine zz ?_;exact ⟨fun _ => trivial, fun h => by cases h⟩
theorem call115 {c : Dat} {level e x m : Int} {v : Val} (h : KT 115 [.d (JB v), .d (.int .i64 level), .mp 1000] (TL c e n) (.d (.bool (x == 0))) (JBD c e x m)) :
  CT 115 [.d (JB v), .d (.int .i64 level), .mp 1000] ((TL c e n).map fun x => (x.1, some x.2)) (.d (.bool (x == 0))) (JBD c e x m) := by
 have := h.call (fun i => i) (fun i hi => by rcases JJW hi with rfl | rfl | rfl | rfl <;> decide) (fun i j _ _ h => h) (by simp [JW, Av.get]) (JGj c e n) [] (by simp [Av.get]) (JAZ c e n _ _) trivial;have ha : ∀ x, (XB c x).ren (fun i => i) = XB c x := by
  intro x;unfold XB;split <;> simp [Obj.ren, YJ, tmL, lpL, Av.ren]
 simp only [ha, JBD, Va, Vb] at this;simp only [TL, JBD, Va, Vb, Obj.ren, Av.ren, J1, JEg, lpL, tmL, YJ, List.append_nil] at this ⊢;exact this
theorem JRt (c : Dat) : ∀ (k : Nat) (e n : Int) (v : Val), k ≤ 8 → 0 ≤ n → n ≤ 4096 →
  KT 115 [.d (JB v), .d (.int .i64 (9 - k)), .mp 1000] (TL c e n) (.d (.bool ((YB k n v).1 == 0))) (JBD c e (YB k n v).1 (YB k n v).2) := by
 intro k
 induction k with
 | zero =>
  intro e n v hk h0 h1;have hb : (YL (n + 1) 9 v == 0) = false := by simp [chk9]
  simp only [YB, hb];exact JKp c e n 9 v h0 h1 (chk9 _ _)
 | succ k ih =>
  intro e n v hk h0 h1;have hl : 9 - ((k + 1 : Nat) : Int) = 8 - k := oM;rw [hl];by_cases hx : YL (n + 1) (8 - k) v = 0
  ·refine Con.Ju JNs.has fun hfit => ?_
   obtain ⟨_, f2, f3, _⟩ := JOL (hfit (JB v) sP);have hv : YB (k + 1) n v = JAE (YB k) (n + 1) (Xt v) := by rw [YB, if_neg (by simp [hx])]
   rw [hv];generalize hF : JAE (YB k) (n + 1) (Xt v) = F;refine JNs.co (k := false) (JAZ c e n _ _) trivial ?_;have hy := JKn c e n (8 - k) v ⟨h0, h1⟩;have h217 := (JRX v f3).call trivial;have hpl := JJN v f2 f3;rw [hx] at hy;have hm := chk_n hx;rw [JA] at hy h217 ⊢;simp only [TL, go_sem, JNr, simprocAttr];refine UU rfl hy ⟨rfl, rfl, rfl, rfl, trivial⟩ ?_;simp only [go_sem, XB, beq_self_eq_true, Vr, simprocAttr];refine wc h217 ?_;clear h217 hy hv hfit;generalize hP : Xt v = ps at *;simp only [Vc];refine JJ (fun r s => ∃ (j : Nat) (m : Int), j ≤ ps.length ∧ r = ps.length - j ∧ 0 ≤ m ∧ m ≤ 4096 ∧ JAE (YB k) m (ps.drop j) = F ∧
    s = ⟨[(1, .d (.int .i64 (8 - k))), (2, .mp 1000), (15, .d (.list 6 (ps.map JB))), (16, .d (.int .i64 ps.length)), (17, .d (.int .i64 j))],
     [(1000, .lp (lpL (tmL c) .ready none)), (1002, .box [.d (.int .i64 e)]), (1003, .box (Uo.map .d)), (1004, .box [.d (.int .i64 m)])]⟩) ?_ ?_
   ·refine ⟨_, _, Wk.less ?_, 0, n + 1, Nat.zero_le _, rfl, oM, hm, hF, rfl⟩;simp [go_sem, lpL, tmL, Uo]
   ·rintro r s ⟨j, m, hj, rfl, hm0, hm1, hinv, rfl⟩;by_cases hlt : j < ps.length
    ·have hx' := Jy hlt;have hd := dT hlt;have hw : IntKind.i64.wrap (8 - (k : Int) + 1) = 9 - k := by rw [wrap64 oM oM]; omega
     have hc := call115 (ih e m ps[j] oM hm0 hm1);have hn := JOR k m ps[j] hm0 hm1;rw [Vq hlt, JAE] at hinv;generalize hV : YB k m ps[j] = V at *;rw [JA] at hc;simp only [go_sem, hx', hd, hw, Vv, Vc, simprocAttr];refine ⟨oM, UU rfl hc ⟨rfl, rfl, rfl, rfl, trivial⟩ ?_⟩;by_cases h0 : V.1 = 0
     ·rw [if_neg (by simp [h0])] at hinv;simp only [go_sem, h0, XB, beq_self_eq_true, Vr, simprocAttr];refine ⟨ps.length - (j + 1), _, oM, Wk.less ?_, j + 1, V.2, oM, rfl, (hn h0).1, (hn h0).2, hinv, rfl⟩;simp [go_sem, Jj j oM, lpL, tmL, Uo]
     ·rw [if_pos h0] at hinv;have hb : (V.1 == 0) = false := by simp [h0]
      subst hinv;simp only [go_sem, hb, Vs, simprocAttr]
    ·have hd := dF hlt;obtain rfl : j = ps.length := oM;rw [List.drop_length, JAE] at hinv;subst hinv;simp only [go_sem, hd, XB, beq_self_eq_true, Vr, simprocAttr]
  ·have hb : (YL (n + 1) (8 - k) v == 0) = false := by simp [hx]
   have hv : YB (k + 1) n v = (YL (n + 1) (8 - k) v, n + 1) := by rw [YB, if_pos hx]
   rw [hv];simp only [hb];exact JKp c e n _ v h0 h1 hx
def JDO (v : Val) : Int := (YB 8 0 v).1
theorem JRu (v : Val) (c : Dat) (e : Int) :
  KT 114 [.mp 1000, .d (.ptr (JB v).cells)] (TL c e 0) (.tup []) (JBD c e (YB 8 0 v).1 (YB 8 0 v).2) := by
 refine JNq.co (k := false) (JAZ c e 0 _ _) trivial ?_;have hc := call115 (JRt c 8 e 0 v dC dC dC);rw [JA] at hc ⊢;simp only [TL, go_sem, ir114, simprocAttr];have e1 : (9 : Int) - ((8 : Nat) : Int) = 1 := rfl;rw [e1] at hc;refine UU rfl hc ⟨rfl, rfl, rfl, rfl, trivial⟩ ?_;exact zz trivial
noncomputable def JLe (c : Dat) (s : LoopState) (j : Option Code) : Av.Obj := .lp ⟨[(2, .ref 2 0), (3, .ref 3 0), (4, .ref 4 0), (10, .d c)], 46, #[11, 12], Xs (U3 Tryz.f15) [1, 1, 1, 0, 1, 0, 0], Xs (U3 Tryz.f15) [1, 1, 1, 0, 1, 0, 1], s, j⟩
theorem call114 (v : Val) (c : Dat) (e : Int) :
  CT 114 [.mp 57, .d (.ptr (JB v).cells)] [(57, some (JLe c .ready none)), (2, some (.box [.d (.int .i64 e)])), (3, some (.box (Uo.map .d))), (4, some (.box [.d (.int .i64 0)]))] (.tup [])
   [(57, if (YB 8 0 v).1 = 0 then JLe c .ready none else JLe c .done (some .ret)), (2, .box [.d (.int .i64 (if (YB 8 0 v).1 = 0 then e else (YB 8 0 v).1))]), (4, .box [.d (.int .i64 (YB 8 0 v).2)])] := by
 have hd : ∀ i x m, (JD (get (TL c e 0)) (JBD c e x m) i).isSome = true → i = 1000 ∨ i = 1002 ∨ i = 1003 ∨ i = 1004 := by
  intro i x m h;rw [← Jg] at h;have : (get (TL c e 0) i).isSome = true := by
   simp only [TL, JBD, UA, put, simprocAttr] at h;simp only [Av.get] at h ⊢;split at h
   ·simp [*]
   ·split at h
    ·simp [*]
    ·split at h
     ·simp [*]
     ·split at h
      ·simp [*]
      ·cases h
  exact JJW this
 have := (JRu v c e).call (fun i => if i = 1000 then 57 else i - 1000) (fun i hi => by rcases JJW hi with rfl | rfl | rfl | rfl <;> decide)
  (fun i j hi hj h => by rcases hd i _ _ hi with rfl | rfl | rfl | rfl <;> rcases hd j _ _ hj with rfl | rfl | rfl | rfl <;> first | rfl | simp at h) (by simp [JW, Av.get]) (JGj c e 0) [] (by simp [Av.get]) (JAZ c e 0 _ _) trivial
 have ha : ∀ x, (XB c x).ren (fun i => if i = 1000 then 57 else i - 1000) = if x = 0 then JLe c .ready none else JLe c .done (some .ret) := by
  intro x;unfold XB;split <;> simp [Obj.ren, YJ, tmL, lpL, JLe, Av.ren]
 have hr : (Obj.box (Uo.map .d)).ren (fun i => if i = 1000 then 57 else i - 1000) = .box (Uo.map .d) := rfl;simp only [ha, hr, TL, JBD, Va, Vb] at this;simp only [Va, Vb, Obj.ren, Av.ren, J1, lpL, tmL, YJ, List.append_nil, Nat.reduceSub, simprocAttr] at this;exact this
theorem JDb {P : Program} {D : Nat → Prop} {f : Opd} {N lid : Nat} {ps : Array Nat} {c1 c2 : Code} {asg body : Ic} {Q : Exit → St → Prop} {st : St} {g : Nat} {vs : List Av} {T : List (Nat × Option Av.Obj)} {v : Av}
  {ups : List (Nat × Av.Obj)} {l : Lp} (hno : get st.hp lid = none) (ht : Xx (get st.tm) (.dyn f) [.mp lid] = some (.fn g, vs)) (hh : Has P g) (hc : JQ P g vs T v ups)
  (hT : Xe (Av.upd (get st.hp) lid (some (.lp ⟨st.tm, N, ps, c1, c2, .ready, none⟩))) T) (hl : JD (Av.upd (get st.hp) lid (some (.lp ⟨st.tm, N, ps, c1, c2, .ready, none⟩))) ups lid = some (.lp l)) (hb : l.s ≠ .busy)
  (hj : (l.j = none ∧ Q .normal ⟨st.tm, put (UA st.hp ups) lid .gone⟩) ∨ (l.j = some .ret ∧ Q .ret ⟨st.tm, put (UA st.hp ups) lid .gone⟩)) : wpc P D (.rng f N lid ps c1 c2 asg body) Q st := by
 simp only [wpc];refine ⟨hno, fun _ _ => ?_⟩;rw [ht];refine ⟨T, v, ups, hh, hc, hT, put (UA st.hp ups) lid .gone, l, fun i hi => by rw [UM, if_neg hi, Jg], by rw [UM, if_pos rfl], hl, hb, ?_⟩;rcases hj with ⟨h, q⟩ | ⟨h, q⟩ <;> rw [h] <;> exact q
theorem JJX (v : Val) : PT 15 [JB v] (.d (.int .i64 (JDO v))) := by
 refine ok15.pc ?_;have h91 := (walk49 v).call trivial;have h90 := walk48.call trivial;have h176 := call114 v (.fn (.func 114) [] [.ptr (JB v).cells]) 0;rw [JA] at h91 h176 ⊢;simp only [go_sem, ir15, simprocAttr];refine wn h90 ?_;simp only [Uo, go_sem, simprocAttr];refine wc h91 ?_;by_cases hx : (YB 8 0 v).1 = 0
 ·simp only [hx, ↓reduceIte] at h176;refine JDb rfl rfl JNq.has h176 ⟨rfl, rfl, rfl, rfl, trivial⟩ rfl sP (.inl ⟨rfl, ?_⟩);simp only [go_sem, JDO, hx, simprocAttr]
 ·simp only [hx, ↓reduceIte] at h176;refine JDb rfl rfl JNq.has h176 ⟨rfl, rfl, rfl, rfl, trivial⟩ rfl sP (.inr ⟨rfl, ?_⟩);simp only [go_sem, JDO, simprocAttr]
end Go.Proofs
namespace Go.Proofs
open Go Av
def JY (k : Int) : Int × Int := if k = 1 ∨ k = 2 ∨ k = 22 ∨ k = 26 then (0, 0) else if k = 3 ∨ k = 16 ∨ k = 18 ∨ k = 19 ∨ k = 20 ∨ k = 27 ∨ k = 28 then (1, 1) else if k = 21 ∨ k = 24 then (3, 3) else if k = 25 then (2, 256) else (2, 2)
theorem JRv (k : Int) : PT 168 [.int .i64 k] (.tup [.d (.int .i64 (JY k).1), .d (.int .i64 (JY k).2)]) := by
 refine ok168.pc ?_;by_cases h1 : k = 1
 ·subst h1;have e : JY 1 = (0, 0) := dC;rw [e];exact JBb trivial
 have b1 : (k == 1) = false := by simp [h1]
 by_cases h2 : k = 2
 ·subst h2;have e : JY 2 = (0, 0) := dC;rw [e];exact JBb trivial
 have b2 : (k == 2) = false := by simp [h2]
 by_cases h22 : k = 22
 ·subst h22;have e : JY 22 = (0, 0) := dC;rw [e];exact JBb trivial
 have b22 : (k == 22) = false := by simp [h22]
 by_cases h26 : k = 26
 ·subst h26;have e : JY 26 = (0, 0) := dC;rw [e];exact JBb trivial
 have b26 : (k == 26) = false := by simp [h26]
 by_cases h3 : k = 3
 ·subst h3;have e : JY 3 = (1, 1) := dC;rw [e];exact JBb trivial
 have b3 : (k == 3) = false := by simp [h3]
 by_cases h16 : k = 16
 ·subst h16;have e : JY 16 = (1, 1) := dC;rw [e];exact JBb trivial
 have b16 : (k == 16) = false := by simp [h16]
 by_cases h18 : k = 18
 ·subst h18;have e : JY 18 = (1, 1) := dC;rw [e];exact JBb trivial
 have b18 : (k == 18) = false := by simp [h18]
 by_cases h19 : k = 19
 ·subst h19;have e : JY 19 = (1, 1) := dC;rw [e];exact JBb trivial
 have b19 : (k == 19) = false := by simp [h19]
 by_cases h20 : k = 20
 ·subst h20;have e : JY 20 = (1, 1) := dC;rw [e];exact JBb trivial
 have b20 : (k == 20) = false := by simp [h20]
 by_cases h27 : k = 27
 ·subst h27;have e : JY 27 = (1, 1) := dC;rw [e];exact JBb trivial
 have b27 : (k == 27) = false := by simp [h27]
 by_cases h28 : k = 28
 ·subst h28;have e : JY 28 = (1, 1) := dC;rw [e];exact JBb trivial
 have b28 : (k == 28) = false := by simp [h28]
 by_cases h21 : k = 21
 ·subst h21;have e : JY 21 = (3, 3) := dC;rw [e];exact JBb trivial
 have b21 : (k == 21) = false := by simp [h21]
 by_cases h24 : k = 24
 ·subst h24;have e : JY 24 = (3, 3) := dC;rw [e];exact JBb trivial
 have b24 : (k == 24) = false := by simp [h24]
 by_cases h25 : k = 25
 ·subst h25;have e : JY 25 = (2, 256) := dC;rw [e];exact JBb trivial
 have b25 : (k == 25) = false := by simp [h25]
 have e : JY k = (2, 2) := by simp [JY, h1, h2, h22, h26, h3, h16, h18, h19, h20, h27, h28, h21, h24, h25]
 rw [e];simp only [go_sem, JNu, b1, b2, b22, b26, b3, b16, b18, b19, b20, b27, b28, b21, b24, b25, simprocAttr]
def Zb (k : Int) : Bool := (k == 2) || (k == 22) || (k == 26)
theorem JOS (k : Int) : PT 67 [.int .i64 k] (.d (.bool (Zb k))) := by
 refine ok67.pc ?_;simp only [go_sem, ir67, simprocAttr];refine sq (k == 22) ?_ ?_
 ·exact zz trivial
 refine zz ?_;refine sq (k == 26) ?_ ?_
 ·exact zz trivial
 simp only [go_sem, Zb, simprocAttr]
def JB0 (k : Int) : Bool := (k == 15) || (k == 26)
theorem JGk (k : Int) : PT 169 [.int .i64 k] (.d (.bool (JB0 k))) := by
 refine ok169.pc ?_;simp only [go_sem, ir169, simprocAttr];refine sq (k == 26) ?_ ?_
 ·exact zz trivial
 simp only [go_sem, JB0, simprocAttr]
def JB1 (k : Int) : Bool := decide (k ≥ 1) && decide (k ≤ 7)
theorem JRw (k : Int) : PT 227 [.int .i64 k] (.d (.bool (JB1 k))) := by
 refine ok227.pc ?_;simp only [go_sem, ir227, simprocAttr];refine sq (decide (k ≤ 7)) ?_ ?_
 ·exact zz trivial
 simp only [go_sem, JB1, simprocAttr]
def cvE : List Val → Int
 | [] => 4
 | [v] => if JDO v != 0 then JDO v else if !JB1 v.kind then 18 else 0
 | _ => 3
theorem JRx (l : List Val) : PT 170 [.list 6 (l.map JB)] (.d (.int .i64 (cvE l))) := by
 refine ok170.pc ?_
 match l with
 | [] =>
  have e0 : (((0 : Nat) : Int) == 0) = true := rfl;simp only [go_sem, JKf, Vb, Vm, e0, Nat.reduceAdd, Nat.reduceEqDiff, Nat.reduceBEq, Nat.reduceLeDiff, reduceCtorEq, ↓reduceIte];rfl
 | [v] =>
  have e0 : (((1 : Nat) : Int) == 0) = false := rfl;have e1 : (((1 : Nat) : Int) == 1) = true := rfl;have hx := Jy (xs := [v]) (k := 0) sP;have c30 := (JJX v).call trivial;have c273 := (JRw v.kind).call trivial;rw [JA] at c30;simp only [Va, Vb, List.getElem_cons_zero] at hx;simp only [go_sem, JKf, Va, Vb, Vf, Vm, Int.toNat_zero, hx, Nat.zero_add, e0, e1, Nat.reduceAdd, Nat.reduceEqDiff, Nat.reduceBEq, Nat.reduceLeDiff, reduceCtorEq, ↓reduceIte];refine ⟨dC, wn c30 ?_⟩;simp only [go_sem, Int.toNat_zero, hx, Nat.reduceAdd, Nat.reduceEqDiff, Nat.reduceBEq, Nat.reduceLeDiff, reduceCtorEq, ↓reduceIte];refine ⟨fun h => ?_, fun h => ⟨dC, dC, ?_⟩⟩
  ·rw [cvE, if_pos h]
  rw [cvE, if_neg (by simp [h])];refine wc c273 ?_;apply ik <;> intro h2
  ·rw [if_pos h2]
  ·rw [if_neg (by simp [h2])]
 | v :: w :: r =>
  have e0 : ((((r.map JB).length + 1 + 1 : Nat) : Int) == 0) = false := sO;have e1 : ((((r.map JB).length + 1 + 1 : Nat) : Int) == 1) = false := sO;simp only [go_sem, JKf, Va, Vf, e0, e1, Nat.reduceAdd, Nat.reduceEqDiff, Nat.reduceBEq, Nat.reduceLeDiff, reduceCtorEq, ↓reduceIte];rfl
theorem JRy (p : Part) : PT 171 [Jr p] (.d (.bool (p.kind == 3))) := by
 refine ok171.pc ?_;simp only [Jr];simp only [go_sem, ir171, simprocAttr]
def JOT (q : Part → Bool) (l : List Part) : Int := match l.findIdx? q with
 | some k => (k : Int)
 | none => -1
theorem JOU {f : Nat} {q : Part → Bool} (hq : ∀ p, PT f [Jr p] (.d (.bool (q p)))) (l : List Part) (hl : l.length ≤ 68719476736) : PT 149 [.list 3 (l.map Jr), .fn (.func f) [] []] (.d (.int .i64 (JOT q l))) := by
 refine JTB.pc ?_;refine zz71 ?_;refine JJ (fun n s => ∃ k : Nat, k ≤ l.length ∧ n = l.length - k ∧ (∀ (j : Nat) (h1 : j < l.length), j < k → q l[j] = false) ∧
  s = ⟨[(0, .d (.list 3 (l.map Jr))), (1, .d (.fn (.func f) [] [])), (7, .d (.int .i64 l.length)), (8, .d (.int .i64 k))], []⟩) ?_ ?_
 ·exact ⟨_, _, Wk.refl _, 0, Nat.zero_le _, rfl, sP, rfl⟩
 ·rintro n s ⟨k, hk, rfl, hinv, rfl⟩;by_cases hlt : k < l.length
  ·have hx := Yi hlt;have hd := dT hlt;have hc := (hq l[k]).call trivial;simp only [Jr] at hc;refine zz8 ?_;refine ⟨oM, wn hc ?_⟩;refine zz ?_;apply ik <;> intro hf
   ·have : l.findIdx? q = some k := by
     rw [List.findIdx?_eq_some_iff_getElem];exact ⟨hlt, hf, fun j hj => by rw [hinv j oM hj]; decide⟩
    simp only [JOT, this]
   ·refine ⟨l.length - (k + 1), _, oM, Wk.less ?_, k + 1, oM, rfl, ?_, rfl⟩
    ·exact Y6 trivial
    ·intro j h1 hj;by_cases e : j = k
     ·subst e; exact hf
     ·exact hinv j h1 oM
  ·have hd := dF hlt;refine JAl ?_;have : l.findIdx? q = none := by
    rw [List.findIdx?_eq_none_iff];intro x hx;obtain ⟨j, hj, rfl⟩ := List.getElem_of_mem hx;exact hinv j hj oM
   simp only [JOT, this]
theorem JKq {f : Nat} {q : Part → Bool} (hq : ∀ p, PT f [Jr p] (.d (.bool (q p)))) (l : List Part) (hl : l.length ≤ 68719476736) : PT 81 [.list 3 (l.map Jr), .fn (.func f) [] []] (.d (.bool (l.any q))) := by
 refine ok81.pc ?_;simp only [go_sem, ir81, simprocAttr];refine wn ((JOU hq l hl).call trivial) ?_;have : decide (JOT q l ≥ 0) = l.any q := by
  unfold JOT;cases e : l.findIdx? q with
  | none =>
   rw [List.findIdx?_eq_none_iff] at e;have : l.any q = false := by rw [List.any_eq_false]; intro x hx; rw [e x hx]; decide
   rw [this]; simp
  | some k =>
   obtain ⟨h1, h2, _⟩ := List.findIdx?_eq_some_iff_getElem.1 e;have : l.any q = true := by rw [List.any_eq_true]; exact ⟨_, Vk h1, h2⟩
   rw [this]; simp
 exact zz56 trivial
noncomputable def JEh (e : Exp) : Int :=
 if decide (e.op < 1) || decide (e.op > 28) then 11
 else if ((e.op != 1 && decide ((e.value.length : Int) > 0)) || (!Zb e.op && e.text != [])) || (!JB0 e.op && e.int != 0) then 3
 else if (JY e.op).2 == 0 && decide ((e.args.length : Int) > 0) then 3
 else if decide ((e.args.length : Int) < (JY e.op).1) then 4
 else if decide ((e.args.length : Int) > (JY e.op).2) && e.op != 25 then 3
 else if e.op == 1 then cvE e.value
 else if Zb e.op && (JH e.text).2 != 0 then (JH e.text).2
 else if Zb e.op && !(((JH e.text).1.any fun p => p.kind == 3) == (e.op == 26)) then 22
 else if JB0 e.op && (decide (e.int < 0) || decide (e.int > 12)) then 2 else 0
theorem JJY {e : Exp} (h : fits (JL e)) : e.text.length ≤ 68719476736 ∧ e.value.length ≤ 68719476736 ∧ e.args.length ≤ 68719476736 ∧ ∀ x ∈ e.args, fits (JL x) := by
 rw [JE] at h;simp only [fits, XL, Vc, and_true] at h;obtain ⟨_, _, h1, ⟨h2, h3⟩, h4, h5⟩ := h;exact ⟨h1, h2, h4, fun x hx => UQ.1 h5 _ (VC.2 ⟨x, hx, rfl⟩)⟩
theorem JGl (s : Str) : (JH s).1.length ≤ 68719476736 := by
 unfold JH;split
 ·simp
 split
 ·simp
 split
 ·split
  ·simp
  ·rename_i h; simp at h ⊢; omega
 ·simp
theorem JRz (e : Exp) : PT 120 [JL e] (.d (.int .i64 (JEh e))) := by
 refine Ui.Ju ok120.has fun hfit => ?_
 obtain ⟨ft, fv, fa, _⟩ := JJY (hfit _ (List.mem_singleton.2 rfl));refine ok120.pc ?_;generalize hR : JEh e = R;rw [JE];simp only [go_sem, ir120, simprocAttr];refine sq (decide (e.op > 28)) ?_ ?_
 ·exact zz trivial
 refine zz ?_;refine ⟨fun h1 => ?_, fun h1 => wn ((JRv e.op).call (by simp [JU])) ?_⟩
 ·rw [← hR, JEh, if_pos h1]
 rw [JEh, if_neg (by simp only [h1]; decide)] at hR;refine zz7 ?_;refine sq (decide ((e.value.length : Int) > 0)) ?_ ?_
 ·exact zz7 trivial
 refine zz ?_;refine sq (!Zb e.op && e.text != []) ?_ ?_
 ·refine zz ?_;refine wc ((JOS _).call trivial) ?_;refine sq (e.text != []) ?_ ?_
  ·refine zz ?_;exact zf
  exact zz trivial
 refine zz ?_;refine sq (!JB0 e.op && e.int != 0) ?_ ?_
 ·refine zz ?_;refine wc ((JGk _).call trivial) ?_;refine sq (e.int != 0) ?_ ?_
  ·exact zz trivial
  exact zz trivial
 refine zz ?_;apply ik <;> intro h2
 ·rw [if_pos h2] at hR;rw [hR]
 rw [if_neg (nF h2)] at hR;refine sq (decide ((e.args.length : Int) > 0)) ?_ ?_
 ·exact zz7 trivial
 refine zz7 ?_;refine ⟨fun h3 => ?_, fun h3 => ⟨fun h4 => ?_, fun h4 => ?_⟩⟩
 ·rw [if_pos h3] at hR;rw [hR]
 ·rw [if_neg (nF h3), if_pos h4] at hR;rw [hR]
 rw [if_neg (nF h3), if_neg (nF h4)] at hR;refine sq (e.op != 25) ?_ ?_
 ·exact zz trivial
 refine zz ?_;refine ⟨fun h5 => ?_, fun h5 => ⟨fun h6 => ?_, fun h6 => ?_⟩⟩
 ·rw [if_pos h5] at hR;rw [hR]
 ·rw [if_neg (nF h5), if_pos h6] at hR;refine wn ((JRx e.value).call trivial) ?_;simp only [go_sem, hR, simprocAttr]
 rw [if_neg (nF h5), if_neg (nF h6)] at hR;refine wc ((JOS _).call trivial) ?_;apply ik <;> intro hp
 ·rw [hp] at hR;simp only [Vt] at hR;refine wc ((JCc e.text ft).call (by simp [JU])) ?_;apply ik <;> intro h7
  ·rw [if_pos h7] at hR;rw [hR]
  rw [if_neg (nF h7)] at hR;refine wc ((JKq JRy _ (JGl e.text)).call trivial) ?_;apply ik <;> intro h8
  ·rw [if_pos h8] at hR;rw [hR]
  rw [if_neg (nF h8)] at hR;refine wc ((JGk _).call trivial) ?_;refine sq (decide (e.int < 0) || decide (e.int > 12)) ?_ ?_
  ·refine zz ?_;refine sq (decide (e.int > 12)) ?_ ?_
   ·exact zz trivial
   exact zz trivial
  refine zz ?_;apply ik <;> intro h9
  ·rw [if_pos h9] at hR;rw [hR]
  ·rw [if_neg (nF h9)] at hR;rw [hR]
 ·rw [hp] at hR;simp only [Bool.false_and, Vu, if_false] at hR;refine wc ((JGk _).call trivial) ?_;refine sq (decide (e.int < 0) || decide (e.int > 12)) ?_ ?_
  ·refine zz ?_;refine sq (decide (e.int > 12)) ?_ ?_
   ·exact zz trivial
   exact zz trivial
  refine zz ?_;apply ik <;> intro h9
  ·rw [if_pos h9] at hR;rw [hR]
  ·rw [if_neg (nF h9)] at hR;rw [hR]
def UX (l : List Part) : Dat := .list 3 (l.map Jr)
def meets (l o : List Part) : Bool := XQ l o || XQ o l
theorem walk84 (l o : List Part) (hl : l.length ≤ 68719476736) (ho : o.length ≤ 68719476736) :
  KT 84 ([UX o].map .d ++ [.ref 1000 0]) [(1000, .box ([UX l].map .d))] (.d (.bool (meets l o))) [] := by
 refine ok84.co (k := false) (XT _ _) trivial ?_;simp only [Va, Vb, List.cons_append, List.nil_append, UX];simp only [go_sem, ir84, simprocAttr];refine wc ((JNj l o hl ho).call trivial) ?_;refine Us (XQ o l) (fun h => ?_) ?_
 ·refine zz ?_;refine wc ((JNj o l ho hl).call trivial) trivial
 ·simp only [go_sem, meets, simprocAttr]
def JLf (l : List Part) (ls : List (List Part)) : Int := match ls.findIdx? (meets l) with
 | some k => (k : Int)
 | none => -1
theorem JLg {xs : List (List Part)} {k : Nat} (h : k < xs.length) : nth (xs.map UX) k = .list 3 (xs[k].map Jr) := by
 rw [U2 (sX h), List.getElem_map, UX]
abbrev T2 (l : List Part) (v : Nat) (ls : List (List Part)) : List (Nat × Av.Obj) := [(1000, .box [.d (UX l)]), (1001, .row v 1 (ls.map UX))]
theorem JAa (l : List Part) (v : Nat) (ls : List (List Part)) : closed (get (T2 l v ls)) := by
 refine UZ ?_;simp only [Jc, J4, JP, JW, and_true]
theorem JR0 (l : List Part) (v : Nat) (ls : List (List Part)) (hl : l.length ≤ 68719476736) (hls : ls.length ≤ 68719476736) (h : ∀ x ∈ ls, x.length ≤ 68719476736) :
  KT 150 [.ms 1001 v, .clo (.func 84) [] [.ref 1000 0]] (T2 l v ls) (.d (.int .i64 (JLf l ls))) [] := by
 refine ok150.co (k := false) (JAa l v ls) trivial ?_;simp only [T2];simp only [go_sem, JTC, Vc, simprocAttr];refine JJ (fun n s => ∃ k : Nat, k ≤ ls.length ∧ n = ls.length - k ∧ (∀ (j : Nat) (h1 : j < ls.length), j < k → meets l ls[j] = false) ∧
  s = ⟨[(0, .ms 1001 v), (1, .clo (.func 84) [] [.ref 1000 0]), (7, .d (.int .i64 ls.length)), (8, .d (.int .i64 k))], [(1000, .box [.d (UX l)]), (1001, .row v 1 (ls.map UX))]⟩) ?_ ?_
 ·exact ⟨_, _, Wk.refl _, 0, Nat.zero_le _, rfl, sP, rfl⟩
 ·rintro n s ⟨k, hk, rfl, hinv, rfl⟩;by_cases hlt : k < ls.length
  ·have hx := JLg hlt;have hd := dT hlt;have hc := Con.rl (walk84 l ls[k] hl (h _ (Vk hlt))) 1000;refine zz8 ?_;refine ⟨oM, dC, wn hc ?_⟩;refine zz ?_;apply ik <;> intro hf
   ·have : ls.findIdx? (meets l) = some k := by
     rw [List.findIdx?_eq_some_iff_getElem];exact ⟨hlt, hf, fun j hj => by rw [hinv j oM hj]; decide⟩
    simp only [JLf, this]
   ·refine ⟨ls.length - (k + 1), _, oM, Wk.less ?_, k + 1, oM, rfl, ?_, rfl⟩
    ·exact Y6 trivial
    ·intro j h1 hj;by_cases e : j = k
     ·subst e; exact hf
     ·exact hinv j h1 oM
  ·have hd := dF hlt;refine JAl ?_;have : ls.findIdx? (meets l) = none := by
    rw [List.findIdx?_eq_none_iff];intro x hx;obtain ⟨j, hj, rfl⟩ := List.getElem_of_mem hx;exact hinv j hj oM
   simp only [JLf, this]
theorem JAb {o1 o2 : Av.Obj} {i : Nat} (h : (get [(1000, o1), (1001, o2)] i).isSome = true) : i = 1000 ∨ i = 1001 := by
 simp only [Av.get] at h;split at h
 ·rename_i e; exact .inl e.symm
 ·split at h
  ·rename_i e; exact .inr e.symm
  ·cases h
theorem Con.two {P : Program} {f : Nat} {args : List Av} {o1 o2 : Av.Obj} {r : Dat} (h : Con P f args [(1000, o1), (1001, o2)] (.d r) []) (i j : Nat) (hij : i ≠ j)
  (hargs : ∀ c ∈ args, inT (get [(1000, o1), (1001, o2)]) c) (hcl : closed (get [(1000, o1), (1001, o2)])) :
  JQ P f (args.map (Av.ren fun n => if n = 1000 then i else j)) [(i, some (o1.ren fun n => if n = 1000 then i else j)), (j, some (o2.ren fun n => if n = 1000 then i else j))] (.d r) [] := by
 have := h.call (fun n => if n = 1000 then i else j) (fun k hk => by rcases JAb hk with rfl | rfl <;> decide) (fun a b ha hb e => ?_) hargs hcl [] sP hcl trivial
 ·simpa [Av.ren] using this
 ·rcases JAb ha with rfl | rfl <;> rcases JAb hb with rfl | rfl
  ·rfl
  ·simp at e; exact absurd e hij
  ·simp at e; exact absurd e.symm hij
  ·rfl
theorem args2 (l : List Part) (v : Nat) (ls : List (List Part)) : ∀ c ∈ [Av.ms 1001 v, .clo (.func 84) [] [.ref 1000 0]], inT (get (T2 l v ls)) c := by
 intro c hc;simp only [VA, List.not_mem_nil, or_false] at hc;rcases hc with rfl | rfl
 ·rfl
 ·exact ⟨trivial, rfl, trivial⟩
theorem call150 (l : List Part) (v : Nat) (ls : List (List Part)) (hl : l.length ≤ 68719476736) (hls : ls.length ≤ 68719476736) (h : ∀ x ∈ ls, x.length ≤ 68719476736) (i j : Nat) (hij : i ≠ j) :
  CT 150 [.ms j v, .clo (.func 84) [] [.ref i 0]] [(i, some (.box [.d (UX l)])), (j, some (.row v 1 (ls.map UX)))] (.d (.int .i64 (JLf l ls))) [] := by
 have := Con.two (JR0 l v ls hl hls h) i j hij (args2 l v ls) (JAa l v ls);simp [Av.ren, Obj.ren, J1] at this;exact this
def anyM (l : List Part) (ls : List (List Part)) : Bool := ls.any (meets l)
theorem walk83 (l : List Part) (v : Nat) (ls : List (List Part)) (hl : l.length ≤ 68719476736) (hls : ls.length ≤ 68719476736) (h : ∀ x ∈ ls, x.length ≤ 68719476736) :
  KT 83 [.ms 1001 v, .clo (.func 84) [] [.ref 1000 0]] (T2 l v ls) (.d (.bool (anyM l ls))) [] := by
 refine ok83.co (k := false) (JAa l v ls) trivial ?_;simp only [T2];simp only [go_sem, ir83, simprocAttr];refine wn (call150 l v ls hl hls h 1000 1001 dC) ?_;have : decide (JLf l ls ≥ 0) = anyM l ls := by
  unfold JLf anyM;cases e : ls.findIdx? (meets l) with
  | none =>
   rw [List.findIdx?_eq_none_iff] at e;have : (ls.any (meets l)) = false := by rw [List.any_eq_false]; intro x hx; rw [e x hx]; decide
   rw [this]; simp
  | some k =>
   obtain ⟨h1, h2, _⟩ := List.findIdx?_eq_some_iff_getElem.1 e;have : (ls.any (meets l)) = true := by rw [List.any_eq_true]; exact ⟨_, Vk h1, h2⟩
   rw [this]; simp
 exact zz56 trivial
theorem call83 (l : List Part) (v : Nat) (ls : List (List Part)) (hl : l.length ≤ 68719476736) (hls : ls.length ≤ 68719476736) (h : ∀ x ∈ ls, x.length ≤ 68719476736) (i j : Nat) (hij : i ≠ j) :
  CT 83 [.ms j v, .clo (.func 84) [] [.ref i 0]] [(i, some (.box [.d (UX l)])), (j, some (.row v 1 (ls.map UX)))] (.d (.bool (anyM l ls))) [] := by
 have := Con.two (walk83 l v ls hl hls h) i j hij (args2 l v ls) (JAa l v ls);simp [Av.ren, Obj.ren, J1] at this;exact this
theorem JJZ (s : Str) : (JH s).1.length ≤ 68719476736 := by
 unfold JH;split
 ·simp
 ·split
  ·simp
  ·rename_i h;split
   ·rename_i ps hp;split
    ·simp
    ·simp only; omega
   ·simp
noncomputable def JAF : List Rule → List (List Part) → Int
 | [], _ => 0
 | r :: rs, seen => if (JH r.target).2 != 0 then (JH r.target).2 else if JJJ (JH r.target).1 then 22 else if anyM (JH r.target).1 seen then 7 else JAF rs (seen ++ [(JH r.target).1])
noncomputable def XZ (m : List Rule) : Int := if (m.length : Int) > 256 then 9 else JAF m []
theorem walk41 (m : List Rule) (hm : ∀ r ∈ m, r.target.length ≤ 68719476736) : PT 41 [Yv m] (.d (.int .i64 (XZ m))) := by
 refine ok41.pc ?_;simp only [Yv];simp only [go_sem, ir41, Vc, simprocAttr];apply ik <;> intro h
 ·have : XZ m = 9 := by unfold XZ; rw [if_pos (sX h)]
  rw [this]
 have hle : ¬ (m.length : Int) > 256 := sX h;have hV : XZ m = JAF m [] := by unfold XZ; rw [if_neg hle]
 rw [hV];generalize hR : JAF m [] = R;refine JJ (fun n st => ∃ (k : Nat) (seen : List (List Part)), k ≤ m.length ∧ n = m.length - k ∧ seen.length = k ∧ (∀ x ∈ seen, x.length ≤ 68719476736) ∧ R = JAF (m.drop k) seen ∧
  st = ⟨[(3, .ms 39 k), (13, .d (.list 6 (m.map Yg))), (14, .d (.int .i64 m.length)), (15, .d (.int .i64 k))], [(39, .row k 1 (seen.map UX))]⟩) ?_ ?_
 ·refine ⟨_, _, (Wk.JId 3 39 1 rfl rfl dC).trans (Wk.less ?_), 0, [], Nat.zero_le _, rfl, rfl, sP, hR.symm, rfl⟩;simp [put, go_sem]
 ·rintro n st ⟨k, seen, hk, rfl, hsl, hsb, hinv, rfl⟩;by_cases hlt : k < m.length
  ·have hx := JBn hlt;have hd := dT hlt;rw [Vq hlt, JAF] at hinv;have hpl := JJZ m[k].target;refine zz8 ?_;refine ⟨oM, wn ((JCc _ (hm _ (Vk hlt))).call (by simp [JU])) ?_⟩;generalize hps : JH m[k].target = pr at *;obtain ⟨l, e⟩ := pr;simp only at hinv hpl;refine zz ?_;apply ik <;> intro hf
   ·rw [if_pos hf] at hinv;rw [hinv]
   rw [if_neg (by simp [hf])] at hinv;refine wc ((walk81 l hpl).call trivial) ?_;apply ik <;> intro hf
   ·rw [if_pos hf] at hinv;rw [hinv]
   rw [if_neg (by simp [hf])] at hinv;refine wc (call83 l k seen hpl oM hsb 6 39 dC) ?_;apply ik <;> intro hf
   ·rw [if_pos hf] at hinv;rw [hinv]
   rw [if_neg (by simp [hf])] at hinv;refine ⟨sP, sO, m.length - (k + 1), _, oM, Wk.less ?_, k + 1, seen ++ [l], oM, rfl, by simp [hsl], ?_, hinv, rfl⟩
   ·simp only [go_sem, UX, Jj k oM, Vw, Va, Vb, simprocAttr]
   ·intro x hx;rcases List.mem_append.1 hx with hx | hx
    ·exact hsb x hx
    ·rw [List.mem_singleton.1 hx]; exact hpl
  ·have hd := dF hlt;obtain rfl : k = m.length := oM;rw [List.drop_length, JAF] at hinv;exact zz55 trivial
theorem Con.twoU {P : Program} {f : Nat} {args : List Av} {o1 o2 o' : Av.Obj} {r : Dat} (h : Con P f args [(1000, o1), (1001, o2)] (.d r) [(1000, o')]) (i j : Nat) (hij : i ≠ j)
  (hargs : ∀ c ∈ args, inT (get [(1000, o1), (1001, o2)]) c) (hcl : closed (get [(1000, o1), (1001, o2)])) (hcl' : closed (get [(1000, o'), (1001, o2)])) :
  JQ P f (args.map (Av.ren fun n => if n = 1000 then i else j)) [(i, some (o1.ren fun n => if n = 1000 then i else j)), (j, some (o2.ren fun n => if n = 1000 then i else j))] (.d r) [(i, o'.ren fun n => if n = 1000 then i else j)] := by
 have e : JD (get [(1000, o1), (1001, o2)]) [(1000, o')] = get [(1000, o'), (1001, o2)] := by
  rw [← Jg]; rfl
 have := h.call (fun n => if n = 1000 then i else j) (fun k hk => by rcases JAb hk with rfl | rfl <;> decide) (fun a b ha hb e' => ?_) hargs hcl [] (by simp [Av.get]) (by rw [e]; exact hcl') trivial
 ·simpa [Av.ren] using this
 ·rw [e] at ha hb;rcases JAb ha with rfl | rfl <;> rcases JAb hb with rfl | rfl
  ·rfl
  ·simp at e'; exact absurd e' hij
  ·simp at e'; exact absurd e'.symm hij
  ·rfl
def Yr (f : Int → Exp → Int × Int) : Int → List Exp → Int × Int
 | n, [] => (0, n)
 | n, v :: r => if (f n v).1 ≠ 0 then f n v else Yr f (f n v).2 r
noncomputable def eF : Nat → Int → Exp → Int × Int
 | 0, n, e => if n = 256 then (9, n) else (23, n + 1)
 | k + 1, n, e => if n = 256 then (9, n) else if JEh e ≠ 0 then (JEh e, n + 1) else Yr (eF k) (n + 1) e.args
theorem JKr {f : Int → Exp → Int × Int} (hf : ∀ n v, 0 ≤ n → n ≤ 256 → 0 ≤ (f n v).2 ∧ (f n v).2 ≤ 256) : ∀ (l : List Exp) (n : Int), 0 ≤ n → n ≤ 256 → 0 ≤ (Yr f n l).2 ∧ (Yr f n l).2 ≤ 256
 | [], n, h0, h1 => ⟨h0, h1⟩
 | v :: r, n, h0, h1 => by
  simp only [Yr];split
  ·exact hf n v h0 h1
  ·exact JKr hf r _ (hf n v h0 h1).1 (hf n v h0 h1).2
theorem eF_n : ∀ (k : Nat) (n : Int) (e : Exp), 0 ≤ n → n ≤ 256 → 0 ≤ (eF k n e).2 ∧ (eF k n e).2 ≤ 256
 | 0, n, e, h0, h1 => by
  simp only [eF];split
  ·exact ⟨h0, h1⟩
  ·simp only; omega
 | k + 1, n, e, h0, h1 => by
  simp only [eF];split
  ·exact ⟨h0, h1⟩
  ·split
   ·simp only; omega
   ·exact JKr (eF_n k) _ _ oM oM
abbrev TE (n : Int) : List (Nat × Av.Obj) := [(1000, .box [.d (.int .i64 n)]), (1001, .box [.clo (.func 119) [] [.ref 1000 0, .ref 1001 0]])]
theorem JCk (n : Int) : closed (get (TE n)) := by
 refine UZ ?_;simp [Jc, J4, JP, JW, Av.get]
theorem JOV (n m : Int) : closed (JD (get (TE n)) [(1000, .box [.d (.int .i64 m)])]) := by
 have e : JD (get (TE n)) [(1000, .box [.d (.int .i64 m)])] = get (TE m) := by rw [← Jg]; rfl
 rw [e]; exact JCk m
theorem call119 {e : Exp} {level n m x : Int} (h : KT 119 [.d (JL e), .d (.int .i64 level), .ref 1000 0, .ref 1001 0] (TE n) (.d (.int .i64 x)) [(1000, .box [.d (.int .i64 m)])]) (i j : Nat) (hij : i ≠ j) :
  CT 119 [.d (JL e), .d (.int .i64 level), .ref i 0, .ref j 0] [(i, some (.box [.d (.int .i64 n)])), (j, some (.box [.clo (.func 119) [] [.ref i 0, .ref j 0]]))] (.d (.int .i64 x)) [(i, .box [.d (.int .i64 m)])] := by
 have := Con.twoU h i j hij (by simp [JW, Av.get]) (JCk n) (JCk m);simp [Av.ren, Obj.ren, J1] at this;exact this
theorem JR1 : ∀ (k : Nat) (n : Int) (e : Exp), k ≤ 8 → 0 ≤ n → n ≤ 256 →
  KT 119 [.d (JL e), .d (.int .i64 (9 - k)), .ref 1000 0, .ref 1001 0] (TE n) (.d (.int .i64 (eF k n e).1)) [(1000, .box [.d (.int .i64 (eF k n e).2)])] := by
 intro k
 induction k with
 | zero =>
  intro n e hk h0 h1;refine JNt.co (k := false) (JOV _ _) trivial ?_;rw [JE];have hd : decide ((9 : Int) - ((0 : Nat) : Int) > 8) = true := rfl;refine zz81 ?_;apply ik <;> intro h
  ·have : n = 256 := sX h;simp only [eF, if_pos this];exact ⟨trivial, trivial⟩
  ·have hn : ¬ n = 256 := sX h;have hw : IntKind.i64.wrap (n + 1) = n + 1 := wrap64 oM oM;simp only [eF, if_neg hn, hw];exact ⟨trivial, trivial⟩
 | succ k ih =>
  intro n e hk h0 h1;have hl : 9 - ((k + 1 : Nat) : Int) = 8 - k := oM;rw [hl];refine Con.Ju JNt.has fun hfit => ?_
  obtain ⟨_, _, f3, _⟩ := JJY (hfit (JL e) sP);refine JNt.co (k := false) (JOV _ _) trivial ?_;have h179 := (JRz e).call trivial;generalize hF : eF (k + 1) n e = F;rw [JE] at h179 ⊢;have hd : decide (8 - (k : Int) > 8) = false := sO;refine zz81 ?_;refine ⟨fun h => ?_, fun h => wn h179 ?_⟩
  ·have : n = 256 := sX h;rw [eF, if_pos this] at hF;subst hF;exact zz trivial
  have hn : ¬ n = 256 := sX h;have hw : IntKind.i64.wrap (n + 1) = n + 1 := wrap64 oM oM;rw [eF, if_neg hn] at hF;simp only [go_sem, hw, Nat.reduceAdd, Nat.reduceEqDiff, Nat.reduceBEq, Nat.reduceLeDiff, reduceCtorEq, ↓reduceIte];apply ik <;> intro h2
  ·have h2 : JEh e ≠ 0 := sX h2;rw [if_pos h2] at hF;subst hF;exact ⟨rfl, rfl⟩
  have h2 : JEh e = 0 := sX h2;rw [if_neg (by simp [h2])] at hF;clear h179 hfit;generalize hP : e.args = ps at *;simp only [Vc];refine JJ (fun r s => ∃ (j : Nat) (m : Int), j ≤ ps.length ∧ r = ps.length - j ∧ 0 ≤ m ∧ m ≤ 256 ∧ Yr (eF k) m (ps.drop j) = F ∧
   s = ⟨[(1, .d (.int .i64 (8 - k))), (2, .ref 1000 0), (3, .ref 1001 0), (23, .d (.list 5 (ps.map JL))), (24, .d (.int .i64 ps.length)), (25, .d (.int .i64 j))],
    [(1000, .box [.d (.int .i64 m)]), (1001, .box [.clo (.func 119) [] [.ref 1000 0, .ref 1001 0]])]⟩) ?_ ?_
  ·refine ⟨_, _, Wk.less ?_, 0, n + 1, Nat.zero_le _, rfl, oM, oM, hF, rfl⟩;simp [go_sem]
  ·rintro r s ⟨j, m, hj, rfl, hm0, hm1, hinv, rfl⟩;by_cases hlt : j < ps.length
   ·have hx' := JEF hlt;have hd' : decide ((j : Int) < (ps.length : Int)) = true := sO;have hw' : IntKind.i64.wrap (8 - (k : Int) + 1) = 9 - k := by rw [wrap64 oM oM]; omega
    have hc := call119 (ih m ps[j] oM hm0 hm1) 1000 1001 dC;have hn' := eF_n k m ps[j] hm0 hm1;rw [Vq hlt, Yr] at hinv;generalize hV : eF k m ps[j] = V at *;rw [JE] at hc;simp only [go_sem, hx', hd', hw', Vv, Vc, Nat.reduceAdd, Nat.reduceEqDiff, Nat.reduceBEq, Nat.reduceLeDiff, reduceCtorEq, ↓reduceIte];refine ⟨oM, wn hc ?_⟩;refine zz ?_;apply ik <;> intro h0
    ·have h0 : V.1 ≠ 0 := sX h0;rw [if_pos h0] at hinv;subst hinv;exact ⟨rfl, rfl⟩
    ·have h0 : V.1 = 0 := sX h0;rw [if_neg (by simp [h0])] at hinv;refine ⟨ps.length - (j + 1), _, oM, Wk.less ?_, j + 1, V.2, oM, rfl, hn'.1, hn'.2, hinv, rfl⟩;simp [go_sem, Jj j oM]
   ·have hd' : decide ((j : Int) < (ps.length : Int)) = false := sO;obtain rfl : j = ps.length := oM;rw [List.drop_length, Yr] at hinv;subst hinv;simp only [go_sem, hd', Nat.reduceAdd, Nat.reduceEqDiff, Nat.reduceBEq, Nat.reduceLeDiff, reduceCtorEq, ↓reduceIte]
noncomputable def JEi (e : Exp) : Int := (eF 8 0 e).1
theorem JOW (e : Exp) : PT 53 [JL e] (.d (.int .i64 (JEi e))) := by
 refine ok53.pc ?_;have hc := call119 (JR1 8 0 e dC dC dC) 3 4 dC;have e1 : (9 : Int) - ((8 : Nat) : Int) = 1 := rfl;rw [e1] at hc;rw [JE] at hc ⊢;simp only [go_sem, ir53, simprocAttr];refine wn hc ?_;simp only [go_sem, JEi, simprocAttr]
end Go.Proofs
namespace Go.Proofs
open Go.Shelf
end Go.Proofs
namespace Go.Proofs
open Go Av
theorem JJa {f : Int → Exp → Int × Int} {n : Int} {v : Exp} {r : List Exp} (h : (Yr f n (v :: r)).1 = 0) : (f n v).1 = 0 ∧ Yr f n (v :: r) = Yr f (f n v).2 r := by
 simp only [Yr] at h ⊢;split at h
 ·rename_i hx; exact absurd h hx
 ·rename_i hx;simp only [ne_eq, Decidable.not_not] at hx;rw [if_neg (by simp [hx])];exact ⟨hx, rfl⟩
theorem JR2 {k : Nat} {n : Int} {e : Exp} (h : (eF (k + 1) n e).1 = 0) : eF (k + 1) n e = Yr (eF k) (n + 1) e.args := by
 simp only [eF] at h ⊢;split at h
 ·cases h
 ·rename_i h1;rw [if_neg h1];split at h
  ·rename_i h2; exact absurd h h2
  ·rename_i h2; rw [if_neg h2]
theorem JR3 (n : Int) (e : Exp) : (eF 0 n e).1 ≠ 0 := by
 simp only [eF];split <;> simp
end Go.Proofs
namespace Go.Proofs
open Go Av Go.RowKit
theorem dec_bd (s : ByteArray) (i : Nat) : (Utf8.decode s i).1 ≤ 2147483647 ∧ 1 ≤ (Utf8.decode s i).2 ∧ (Utf8.decode s i).2 ≤ 4 := by
 refine ⟨Go.decode_le s i, ?_, ?_⟩
 all_goals
  unfold Utf8.decode;dsimp only
  repeat' split
  all_goals simp
theorem JOX (s : Str) : (dgo s).1 ≤ 2147483647 ∧ (dgo s).2 ≤ 4 ∧ (s ≠ [] → 1 ≤ (dgo s).2) := by
 unfold dgo Lib.decodeGo;split
 ·rename_i h;refine ⟨dC, dC, fun hs => ?_⟩;have : s.length = 0 := by simpa [ByteArray.size] using h
  exact absurd (List.length_eq_zero_iff.1 this) hs
 ·obtain ⟨h1, h2, h3⟩ := dec_bd ⟨s.toArray⟩ 0;exact ⟨h1, h3, fun _ => h2⟩
def JBE : Nat → Str → Nat → List Int
 | 0, _, _ => []
 | f + 1, s, a => if a < s.length then (if (((dgo (s.drop a)).1 : Int) == 65533) && decide (((dgo (s.drop a)).2 : Int) ≤ 1) then [] else ((dgo (s.drop a)).1 : Int) :: JBE f s (a + (dgo (s.drop a)).2)) else []
theorem JEj : ∀ (f : Nat) (s : Str) (a : Nat), (JBE f s a).length ≤ s.length - a
 | 0, s, a => by simp [JBE]
 | f + 1, s, a => by
  unfold JBE;split
  ·rename_i h;split
   ·simp
   ·have := JEj f s (a + (dgo (s.drop a)).2);have hb := (JOX (s.drop a)).2.2 (by intro e; have := congrArg List.length e; simp at this; omega);simp only [Vf];omega
  ·simp
theorem JOY {f : Nat} {s : Str} {a : Nat} (h : ¬ a < s.length) : JBE f s a = [] := by
 cases f with
 | zero => rfl
 | succ f => rw [JBE, if_neg h]
noncomputable def lpP (tm : List (Nat × Av)) (s : LoopState) (j : Option Code) : Lp := ⟨tm, 20, #[12, 13], Xs (U3 Tryz.f184) [1, 1, 1, 0, 1, 0, 0], Xs (U3 Tryz.f184) [1, 1, 1, 0, 1, 0, 1], s, j⟩
def tmP (c : Dat) : List (Nat × Av) := [(2, .d (.nil 1)), (3, .d (.int .i64 0)), (4, .ref 1004 0), (11, .d c)]
noncomputable abbrev TQ (c : Dat) (xs : List Int) : List (Nat × Av.Obj) := [(1000, .lp (lpP (tmP c) .ready none)), (1004, .box [.ms 1005 xs.length]), (1005, .row xs.length 1 (xs.map (.int .i64)))]
abbrev JCl (xs : List Int) : List (Nat × Av.Obj) := [(1004, .box [.ms 1005 xs.length]), (1005, .row xs.length 1 (xs.map (.int .i64)))]
theorem JKs (c : Dat) (xs : List Int) : closed (get (TQ c xs)) := by
 refine UZ ?_;simp [TQ, Jc, J4, JP, JW, U9, tmP, lpP, Av.get]
theorem JB2 (c : Dat) (xs ys : List Int) : closed (JD (get (TQ c xs)) (JCl ys)) := by
 refine Jd ?_;simp [JCl, TQ, UA, put, Jc, J4, JP, JW, U9, tmP, lpP, Av.get]
theorem roundQ (c : Dat) (a r : Int) (xs : List Int) (h0 : -2147483648 ≤ r) (h1 : r ≤ 2147483647) (hl : xs.length < 68719476736) :
  JDI Tryz.prog 1000 [.d (.int .i64 a), .d (.int .i32 r)] (TQ c xs) (.d (.bool true)) (JCl (xs ++ [r])) := by
 refine JDI.Ze (asg := JJU) (body := JGh) rfl rfl kR kR rfl (show ∀ p ∈ [12, 13], p < 20 by decide) ?_ ?_
 ·exact JB2 c xs _
 ·have hw : IntKind.i64.wrap r = r := wrap64 oM oM;simp only [TQ, lpP, tmP, JJU, JGh, hw, go_sem, simprocAttr];refine ⟨_, rfl, rfl, (by intro x hx; rcases List.mem_singleton.1 hx with rfl; rfl), by rw [Vc]; omega, ?_⟩;refine ⟨_, _, rfl, rfl, ⟨[], TQ c (xs ++ [r])⟩, Wk.less ?_, ?_⟩
  ·simp [put, tmP, lpP, go_sem]
  ·intro i o h;rw [← h, ← Jg];simp [UA, put, tmP, lpP, TQ, JCl]
theorem JOZ {c : Dat} {xs : List Int} {i : Nat} (h : (get (TQ c xs) i).isSome = true) : i = 1000 ∨ i = 1004 ∨ i = 1005 := by
 simp only [TQ, Av.get] at h;split at h
 ·rename_i e; exact .inl e.symm
 ·split at h
  ·rename_i e; exact .inr (.inl e.symm)
  ·split at h
   ·rename_i e; exact .inr (.inr e.symm)
   ·cases h
theorem JKt {c : Dat} {xs ys : List Int} {i : Nat} (h : (JD (get (TQ c xs)) (JCl ys) i).isSome = true) : i = 1000 ∨ i = 1004 ∨ i = 1005 := by
 rw [← Jg] at h;have : UA (TQ c xs) (JCl ys) = TQ c ys := by simp [UA, put, JCl, TQ]
 rw [this] at h;exact JOZ h
theorem yieldQ (c : Dat) (a r : Int) (xs : List Int) (h0 : -2147483648 ≤ r) (h1 : r ≤ 2147483647) (hl : xs.length < 68719476736) :
  CT .yld [.mp 1000, .d (.int .i64 a), .d (.int .i32 r)] ((TQ c xs).map fun x => (x.1, some x.2)) (.d (.bool true)) (JCl (xs ++ [r])) := by
 have := (roundQ c a r xs h0 h1 hl).call (fun i => i) ⟨_, rfl⟩ (fun i j _ _ h => h) (by simp [JW]) (JKs c xs) [] (by simp [Av.get]) (JB2 c xs _) trivial;simp only [TQ, JCl, Va, Vb, Obj.ren, Av.ren, J1, lpP, tmP, YJ, List.append_nil] at this ⊢;exact this
theorem JR4 (s : Str) (c : Dat) (hs : s.length ≤ 68719476736) :
  KT 286 [.mp 1000, .d (.ptr [.str s])] (TQ c []) (.tup []) (JCl (JBE (s.length + 1) s 0)) := by
 refine ok286.co (k := false) (JB2 c [] _) trivial ?_;have q1 : ∀ (a : Nat), a ≤ s.length + 4 → (s.drop a).take ((s.length : Int) - a).toNat = s.drop a := fun a _ => JAA s a
 generalize hR : JBE (s.length + 1) s 0 = R;have hRl : R.length ≤ s.length := by rw [← hR]; have := JEj (s.length + 1) s 0; omega
 simp only [TQ, lpP, tmP, go_sem, ir286, Nat.reduceAdd, Nat.reduceEqDiff, Nat.reduceBEq, Nat.reduceLeDiff, reduceCtorEq, ↓reduceIte];refine JJ (fun n st => ∃ (f a : Nat) (ys : List Int), n = f ∧ s.length + 1 ≤ a + f ∧ a ≤ s.length + 4 ∧ ys.length ≤ a ∧ R = ys ++ JBE f s a ∧
  st = ⟨[(0, .mp 1000), (1, .d (.ptr [.str s])), (3, .d (.int .i64 a))], TQ c ys⟩) ?_ ?_
 ·exact ⟨_, _, Wk.refl _, s.length + 1, 0, [], rfl, oM, oM, sP, hR.symm, rfl⟩
 ·rintro n st ⟨f, a, ys, rfl, hf, ha, hyl, hinv, rfl⟩;by_cases hlt : a < s.length
  ·obtain ⟨f, rfl⟩ : ∃ g, n = g + 1 := ⟨n - 1, oM⟩;have hd := dT hlt;rw [JBE, if_pos hlt] at hinv;obtain ⟨b1, b2, b3⟩ := JOX (s.drop a);have b3 := b3 (by intro e; have := congrArg List.length e; simp at this; omega);have c287 := call287 (s.drop a) b1 b2;have cy := yieldQ c a ((dgo (s.drop a)).1 : Int) ys oM oM oM;generalize dgo (s.drop a) = d at *;simp only [TQ, lpP, tmP, go_sem, hd, q1 a ha, Vv, Nat.reduceAdd, Nat.reduceEqDiff, Nat.reduceBEq, Nat.reduceLeDiff, reduceCtorEq, ↓reduceIte];refine ⟨dC, dC, ⟨oM, oM, oM⟩, wn c287 ?_⟩;refine JM7 ?_;refine sq (decide ((d.2 : Int) ≤ 1)) ?_ ?_
   ·exact JM7 trivial
   refine JM7 ?_;cases hq : ((d.1 : Int) == 65533 && decide ((d.2 : Int) ≤ 1)) with
   | true =>
    rw [if_pos hq, List.append_nil] at hinv;rw [← hinv];refine JM7 ?_;exact zf
   | false =>
    rw [if_neg (nF hq)] at hinv;refine JM7 ?_;refine UU rfl cy ⟨rfl, rfl, rfl, trivial⟩ ?_;have hw : IntKind.i64.wrap ((a : Int) + (d.2 : Int)) = ((a + d.2 : Nat) : Int) := by rw [wrap64 oM oM]; omega
    simp only [TQ, lpP, tmP, JCl, go_sem, hw, Vr, Vs, Nat.reduceAdd, Nat.reduceEqDiff, Nat.reduceBEq, Nat.reduceLeDiff, reduceCtorEq, ↓reduceIte];refine ⟨f, _, oM, Wk.less ?_, f, a + d.2, ys ++ [(d.1 : Int)], rfl, oM, oM, sO, by rw [hinv]; simp, rfl⟩;simp [go_sem, TQ, lpP, tmP]
  ·have hd := dF hlt;rw [JOY hlt, List.append_nil] at hinv;rw [← hinv];simp only [TQ, lpP, tmP, go_sem, hd, Nat.reduceAdd, Nat.reduceEqDiff, Nat.reduceBEq, Nat.reduceLeDiff, reduceCtorEq, ↓reduceIte]
   try exact ⟨dC, rfl⟩
   try decide
theorem JGm (l : List Int) : Ji (l.map (.int .i64)) = l.map (.int .i64) := by
 rw [Uf, List.map_map];exact List.map_congr_left fun p _ => by simp [Dat.canon]
def Zo (s : Str) : List Int × Int := if Za s then (JBE (s.length + 1) s 0, 0) else ([], 16)
theorem JR5 (s : Str) : PT 232 [.str s] (.d (.fn (.func 286) [] [.ptr [.str s]])) := by
 refine ok232.pc ?_;simp only [go_sem, ir232, simprocAttr];simp only [go_sem, decide_eq_true_eq, reduceCtorEq, ↓reduceIte]
noncomputable def lpC (c : Dat) (s : LoopState) (j : Option Code) : Av.Obj := .lp ⟨[(2, .d (.nil 1)), (3, .d (.int .i64 0)), (4, .ref 4 0), (11, .d c)], 20, #[12, 13], Xs (U3 Tryz.f184) [1, 1, 1, 0, 1, 0, 0], Xs (U3 Tryz.f184) [1, 1, 1, 0, 1, 0, 1], s, j⟩
theorem call286 (s : Str) (c : Dat) (hs : s.length ≤ 68719476736) :
  CT 286 [.mp 32, .d (.ptr [.str s])] [(4, some (.box [.d (.nil 1)])), (5, none), (32, some (lpC c .ready none))] (.tup [])
   [(4, .box [.ms 5 (JBE (s.length + 1) s 0).length]), (5, .row (JBE (s.length + 1) s 0).length 1 ((JBE (s.length + 1) s 0).map (.int .i64)))] := by
 have := (JR4 s c hs).call (fun i => if i = 1000 then 32 else i - 1000) (fun i hi => by rcases JOZ hi with rfl | rfl | rfl <;> decide)
  (fun i j hi hj h => by rcases JKt hi with rfl | rfl | rfl <;> rcases JKt hj with rfl | rfl | rfl <;> first | rfl | simp at h) (by simp [JW, Av.get]) (JKs c []) [] (by simp [Av.get]) (JB2 c [] _) trivial
 simp only [TQ, JCl, Va, Vb, Obj.ren, Av.ren, J1, lpP, tmP, YJ, List.append_nil, Nat.reduceSub, simprocAttr] at this;exact JQ.nilBox (f := .fn 286) (i := 4) (k := 5) (sz := 1) (j := 0) (cs := [.d (.nil 1)]) (T := [(32, some (lpC c .ready none))]) (by
  intro β A w H vs hT;exact this β A w H vs (fun e he => hT e (by simp only [lpC, VA, List.not_mem_nil, or_false] at he ⊢; rcases he with rfl | rfl | rfl <;> simp)))
  sP dC rfl dC rfl rfl
theorem JR6 (s : Str) (hs : s.length ≤ 68719476736) : PT 184 [.str s] (.tup [.d (.list 1 ((Zo s).1.map (.int .i64))), .d (.int .i64 (Zo s).2)]) := by
 refine ok184.pc ?_;have c160 := (JKm s).call trivial;have c232 := (JR5 s).call trivial;cases hv : Za s with
 | false =>
  have hp : Zo s = ([], 16) := by rw [Zo, hv]; rfl
  rw [hv] at c160;rw [hp];simp only [go_sem, JOF, simprocAttr];refine wn c160 ?_;refine zz58 ?_;exact zf
 | true =>
  have hp : Zo s = (JBE (s.length + 1) s 0, 0) := by rw [Zo, hv]; rfl
  rw [hv] at c160;rw [hp];simp only [go_sem, JOF, simprocAttr];refine wn c160 ?_;simp only [go_sem, Vr, simprocAttr];refine wc c232 ?_;refine JDb rfl rfl ok286.has (call286 s _ hs) ⟨rfl, rfl, rfl, trivial⟩ rfl sP (.inl ⟨rfl, ?_⟩);refine zz ?_;rw [JGm]
end Go.Proofs
namespace Go.Proofs
open Go Av
theorem JGn (n lo hi : Int) : PT 343 [.int .i64 n, .int .i64 lo, .int .i64 hi] (.d (.bool (decide (n ≥ lo) && decide (n ≤ hi)))) := by
 refine ok343.pc ?_;simp only [go_sem, ir343, simprocAttr];refine sq (decide (n ≤ hi)) ?_ ?_
 ·exact zz trivial
 exact zz trivial
def bef (y : Int) : Int := 365 * (y - 1) + (y - 1) / 4 - (y - 1) / 100 + (y - 1) / 400
theorem JR7 (y : Int) (h0 : 1 ≤ y) (h1 : y ≤ 10000) : PT 344 [.int .i64 y] (.d (.int .i64 (bef y))) := by
 refine ok344.pc ?_;have w1 : IntKind.i64.wrap (y - 1) = y - 1 := wrap64 oM oM;have w2 : IntKind.i64.wrap (365 * (y - 1)) = 365 * (y - 1) := wrap64 oM oM;have d1 : (y - 1).tdiv 4 = (y - 1) / 4 := Int.tdiv_eq_ediv_of_nonneg oM;have d2 : (y - 1).tdiv 100 = (y - 1) / 100 := Int.tdiv_eq_ediv_of_nonneg oM;have d3 : (y - 1).tdiv 400 = (y - 1) / 400 := Int.tdiv_eq_ediv_of_nonneg oM;have v1 : IntKind.i64.wrap ((y - 1) / 4) = (y - 1) / 4 := wrap64 oM oM;have v2 : IntKind.i64.wrap ((y - 1) / 100) = (y - 1) / 100 := wrap64 oM oM;have v3 : IntKind.i64.wrap ((y - 1) / 400) = (y - 1) / 400 := wrap64 oM oM;have x1 : IntKind.i64.wrap (365 * (y - 1) + (y - 1) / 4) = 365 * (y - 1) + (y - 1) / 4 := wrap64 oM oM;have x2 : IntKind.i64.wrap (365 * (y - 1) + (y - 1) / 4 - (y - 1) / 100) = 365 * (y - 1) + (y - 1) / 4 - (y - 1) / 100 := wrap64 oM oM;have x3 : IntKind.i64.wrap (365 * (y - 1) + (y - 1) / 4 - (y - 1) / 100 + (y - 1) / 400) = 365 * (y - 1) + (y - 1) / 4 - (y - 1) / 100 + (y - 1) / 400 := wrap64 oM oM;simp only [go_sem, ir344, w1, w2, d1, d2, d3, v1, v2, v3, x1, x2, x3, Nat.reduceAdd, Nat.reduceEqDiff, Nat.reduceBEq, Nat.reduceLeDiff, reduceCtorEq, ↓reduceIte]
 try exact ⟨dC, dC, dC, rfl⟩
def JB3 (y : Int) : Bool := ((decide (y ≥ 1) && decide (y ≤ 9999)) && (y % 4 == 0)) && ((y % 100 != 0) || (y % 400 == 0))
theorem JR8 (y : Int) (h0 : 0 ≤ y) : PT 367 [.int .i64 y] (.d (.bool (JB3 y))) := by
 refine ok367.pc ?_;have c343 := (JGn y 1 9999).call trivial;have d1 : y.tmod 4 = y % 4 := Int.tmod_eq_emod_of_nonneg h0;have d2 : y.tmod 100 = y % 100 := Int.tmod_eq_emod_of_nonneg h0;have d3 : y.tmod 400 = y % 400 := Int.tmod_eq_emod_of_nonneg h0;unfold JB3;simp only [go_sem, ir367, Nat.reduceAdd, Nat.reduceEqDiff, Nat.reduceBEq, Nat.reduceLeDiff, reduceCtorEq, ↓reduceIte];refine wc c343 ?_;refine sq (y % 4 == 0) ?_ ?_
 ·simp only [go_sem, d1, Nat.reduceAdd, Nat.reduceEqDiff, Nat.reduceBEq, Nat.reduceLeDiff, reduceCtorEq, ↓reduceIte]
  try exact ⟨dC, rfl⟩
  try decide
 refine zz ?_;refine sq ((y % 100 != 0) || (y % 400 == 0)) ?_ ?_
 ·simp only [go_sem, d2, Nat.reduceAdd, Nat.reduceEqDiff, Nat.reduceBEq, Nat.reduceLeDiff, reduceCtorEq, ↓reduceIte];refine ⟨dC, Us (y % 400 == 0) (fun _ => ?_) ?_⟩
  ·simp only [go_sem, d3, Nat.reduceAdd, Nat.reduceEqDiff, Nat.reduceBEq, Nat.reduceLeDiff, reduceCtorEq, ↓reduceIte]
   try exact ⟨dC, rfl⟩
   try decide
  exact zz trivial
 exact zz trivial
def mtab : List Int := [31, 28, 31, 30, 31, 30, 31, 31, 30, 31, 30, 31]
def mdI (y : Int) (m : Nat) : Int := if ((m : Int) == 2) && JB3 y then 29 else mtab.getD (m - 1) 0
theorem JR9 (y : Int) (m : Nat) (h0 : 0 ≤ y) (h1 : 1 ≤ m) (h2 : m ≤ 12) : PT 345 [.int .i64 y, .int .i64 m] (.d (.int .i64 (mdI y m))) := by
 refine ok345.pc ?_;have c367 := (JR8 y h0).call trivial;generalize hT : mdI y m = T;unfold mdI at hT;simp only [go_sem, ir345, simprocAttr];refine sq (JB3 y) ?_ ?_
 ·refine zz ?_;refine wc c367 trivial
 refine zz ?_;apply ik <;> intro h
 ·rw [if_pos h] at hT;rw [← hT]
 ·rw [if_neg (nF h)] at hT;have w1 : IntKind.i64.wrap ((m : Int) - 1) = ((m - 1 : Nat) : Int) := by rw [wrap64 oM oM]; omega
  rw [← hT];simp only [go_sem, w1, Vv, simprocAttr];obtain ⟨k, rfl⟩ : ∃ k, m = k + 1 := ⟨m - 1, oM⟩;have hk : k < 12 := oM;simp only [Nat.add_sub_cancel]
  match k, hk with
  | 0, _ => exact ⟨dC, rfl⟩
  | 1, _ => exact ⟨dC, rfl⟩
  | 2, _ => exact ⟨dC, rfl⟩
  | 3, _ => exact ⟨dC, rfl⟩
  | 4, _ => exact ⟨dC, rfl⟩
  | 5, _ => exact ⟨dC, rfl⟩
  | 6, _ => exact ⟨dC, rfl⟩
  | 7, _ => exact ⟨dC, rfl⟩
  | 8, _ => exact ⟨dC, rfl⟩
  | 9, _ => exact ⟨dC, rfl⟩
  | 10, _ => exact ⟨dC, rfl⟩
  | 11, _ => exact ⟨dC, rfl⟩
def YM (y : Int) : Nat → Int
 | 0 => 0
 | m + 1 => YM y m + mdI y (m + 1)
theorem JJb (y : Int) (m : Nat) (h1 : 1 ≤ m) (h2 : m ≤ 12) : 28 ≤ mdI y m ∧ mdI y m ≤ 31 := by
 unfold mdI;split
 ·omega
 ·match m, h1, h2 with
  | 1, _, _ | 2, _, _ | 3, _, _ | 4, _, _ | 5, _, _ | 6, _, _ | 7, _, _ | 8, _, _ | 9, _, _ | 10, _, _ | 11, _, _ | 12, _, _ => decide
theorem msum12 (y : Int) : YM y 12 = 365 + if JB3 y then 1 else 0 := by
 simp only [YM, mdI, mtab];cases JB3 y <;> decide
theorem JH7 (y : Int) (h0 : 1 ≤ y) (h1 : y ≤ 9999) : bef (y + 1) = bef y + YM y 12 := by
 rw [msum12];unfold bef;have e : y + 1 - 1 = y := oM;rw [e];cases hl : JB3 y with
 | true =>
  simp only [JB3, Vi, Vx, beq_iff_eq, bne_iff_ne, decide_eq_true_eq] at hl;simp only [if_true];omega
 | false =>
  simp only [JB3, Bool.and_eq_false_iff, Bool.or_eq_false_iff, beq_eq_false_iff_ne, bne_eq_false_iff_eq, decide_eq_false_iff_not] at hl;simp only [Vu, if_false];omega
theorem JOa {a b : Int} (h : a ≤ b) : bef a ≤ bef b := by
 unfold bef;omega
theorem JKu (n : Int) (h0 : 0 ≤ n) : ∀ (k : Nat), 1 ≤ k → n < bef (k + 1) → ∃ y : Nat, 1 ≤ y ∧ y ≤ k ∧ bef y ≤ n ∧ n < bef ((y : Int) + 1)
 | 0, h, _ => by omega
 | k + 1, _, h => by
  by_cases hb : bef ((k + 1 : Nat) : Int) ≤ n
  ·exact ⟨k + 1, oM, oM, hb, h⟩
  ·by_cases hk : k = 0
   ·subst hk;have h1 : bef ((0 + 1 : Nat) : Int) = 0 := dC;rw [h1] at hb;exact absurd h0 hb
   ·obtain ⟨y, h1, h2, h3, h4⟩ := JKu n h0 k oM (by push_cast at hb ⊢; omega);exact ⟨y, h1, oM, h3, h4⟩
theorem JH8 (y r : Int) (h0 : 0 ≤ r) : ∀ (k : Nat), 1 ≤ k → r < YM y k → ∃ m : Nat, 1 ≤ m ∧ m ≤ k ∧ YM y (m - 1) ≤ r ∧ r < YM y m
 | 0, h, _ => by omega
 | k + 1, _, h => by
  by_cases hb : YM y k ≤ r
  ·exact ⟨k + 1, oM, oM, hb, h⟩
  ·by_cases hk : k = 0
   ·subst hk; exact absurd h0 hb
   ·obtain ⟨m, h1, h2, h3, h4⟩ := JH8 y r h0 k oM oM;exact ⟨m, h1, oM, h3, h4⟩
theorem JCm (y : Int) {a : Nat} : ∀ {b : Nat}, a ≤ b → b ≤ 12 → YM y a ≤ YM y b
 | 0, h, _ => by
  have : a = 0 := oM;subst this; exact Int.le_refl _
 | b + 1, h, hb => by
  by_cases e : a = b + 1
  ·subst e; exact Int.le_refl _
  ·have := JCm y (a := a) (b := b) oM oM;have := (JJb y (b + 1) oM hb).1;simp only [YM];omega
theorem civ_ex (d : Int) : ∃ y m dd e : Int, PT 292 [.int .i64 d] (.tup [.d (.int .i64 y), .d (.int .i64 m), .d (.int .i64 dd), .d (.int .i64 e)]) ∧ (e = 0 → 1 ≤ y ∧ y ≤ 9999 ∧ 1 ≤ m ∧ m ≤ 12 ∧ 1 ≤ dd ∧ dd ≤ 31) := by
 have c343 := (JGn d (-719162) 2932896).call trivial;cases hin : (decide (d ≥ -719162) && decide (d ≤ 2932896)) with
 | false =>
  rw [hin] at c343;refine ⟨0, 0, 0, 2, ?_, fun h => by cases h⟩;refine ok292.pc ?_;simp only [go_sem, JOH, Nat.reduceAdd, Nat.reduceEqDiff, Nat.reduceBEq, Nat.reduceLeDiff, reduceCtorEq, ↓reduceIte];refine wn c343 ?_;exact zz58 trivial
 | true =>
  rw [hin] at c343;simp only [Vi, decide_eq_true_eq] at hin;generalize hn : d + 719162 = n;have n0 : 0 ≤ n := oM;have n1 : n ≤ 3652058 := oM;have w1 : IntKind.i64.wrap (d - -719162) = n := by rw [wrap64 oM oM]; omega
  have q1 : n.tdiv 365 = n / 365 := Int.tdiv_eq_ediv_of_nonneg n0;have q2 : IntKind.i64.wrap (n / 365) = n / 365 := wrap64 oM oM;have q3 : IntKind.i64.wrap (n / 365 + 1) = n / 365 + 1 := wrap64 oM oM;obtain ⟨y0, hy0, hy1, hy9⟩ : ∃ y0 : Nat, (if (9999 : Int) < n / 365 + 1 then (9999 : Int) else n / 365 + 1) = (y0 : Int) ∧ 1 ≤ y0 ∧ y0 ≤ 9999 := by
   refine ⟨(if (9999 : Int) < n / 365 + 1 then (9999 : Int) else n / 365 + 1).toNat, ?_, ?_, ?_⟩ <;> split <;> omega
  have hlt : n < bef ((y0 : Int) + 1) := by
   by_cases h : (9999 : Int) < n / 365 + 1
   ·rw [if_pos h] at hy0;rw [← hy0];have : bef (9999 + 1) = 3652059 := dC;omega
   ·rw [if_neg h] at hy0;rw [← hy0];unfold bef;omega
  obtain ⟨y, g1, g2, g3, g4⟩ := JKu n n0 y0 hy1 hlt;rw [JH7 y oM oM] at g4;obtain ⟨m, m1, m2, m3, m4⟩ := JH8 y (n - bef y) oM 12 oM oM;have hmd : YM y m = YM y (m - 1) + mdI y m := by
   obtain ⟨k, rfl⟩ : ∃ k, m = k + 1 := ⟨m - 1, oM⟩;rfl
  have hmb := JJb y m m1 m2;have hb0 : 0 ≤ bef y := by unfold bef; omega
  refine ⟨y, m, n - bef y - YM y (m - 1) + 1, 0, ?_, fun _ => ⟨oM, oM, oM, oM, oM, oM⟩⟩;refine ok292.pc ?_;simp only [go_sem, JOH, Nat.reduceAdd, Nat.reduceEqDiff, Nat.reduceBEq, Nat.reduceLeDiff, reduceCtorEq, ↓reduceIte];refine wn c343 ?_;simp only [go_sem, Vr, w1, q1, q2, q3, hy0, Nat.reduceAdd, Nat.reduceEqDiff, Nat.reduceBEq, Nat.reduceLeDiff, reduceCtorEq, ↓reduceIte];refine ⟨dC, ?_⟩;refine JJ (fun r s => ∃ c : Nat, y ≤ c ∧ c ≤ y0 ∧ r = c - y ∧ s = ⟨[(6, .d (.int .i64 n)), (2, .d (.int .i64 c))], []⟩) ?_ ?_
  ·exact ⟨_, _, Wk.refl _, y0, oM, Nat.le_refl _, rfl, rfl⟩
  ·rintro r s ⟨c, c1, c2, rfl, rfl⟩;have c344 := (JR7 c oM oM).call trivial;refine zz ?_;refine wn c344 ?_;by_cases hc : c = y
   ·subst hc;have hd : decide (bef (c : Int) > n) = false := sO;refine JAl ?_;refine wn c344 ?_;have w2 : IntKind.i64.wrap (n - bef (c : Int)) = n - bef (c : Int) := wrap64 oM oM;simp only [go_sem, w2, Nat.reduceAdd, Nat.reduceEqDiff, Nat.reduceBEq, Nat.reduceLeDiff, reduceCtorEq, ↓reduceIte];refine JJ (fun r s => ∃ k : Nat, 1 ≤ k ∧ k ≤ m ∧ r = m - k ∧ s = ⟨[(6, .d (.int .i64 (n - bef (c : Int) - YM c (k - 1)))), (2, .d (.int .i64 (c : Int))), (3, .d (.int .i64 (k : Int)))], []⟩) ?_ ?_
    ·refine ⟨_, _, Wk.less ?_, 1, Nat.le_refl _, m1, rfl, rfl⟩;have e0 : YM (c : Int) (1 - 1) = 0 := rfl;have e1 : ((1 : Nat) : Int) = 1 := rfl;simp only [go_sem, e0, e1, Int.sub_zero, Nat.reduceAdd, Nat.reduceEqDiff, Nat.reduceBEq, Nat.reduceLeDiff, reduceCtorEq, ↓reduceIte]
    ·rintro r s ⟨k, k1, k2, rfl, rfl⟩;have c345 := (JR9 c k oM k1 oM).call trivial;have hkb := JJb c k k1 oM;have hks : YM c k = YM c (k - 1) + mdI c k := by
      obtain ⟨j, rfl⟩ : ∃ j, k = j + 1 := ⟨k - 1, oM⟩;rfl
     refine zz ?_;refine wn c345 ?_;by_cases hkm : k = m
     ·subst hkm;have hd : decide (n - bef (c : Int) - YM c (k - 1) ≥ mdI c k) = false := sO;have w3 : IntKind.i64.wrap (n - bef (c : Int) - YM c (k - 1) + 1) = n - bef (c : Int) - YM c (k - 1) + 1 := wrap64 oM oM;simp only [go_sem, hd, w3, Nat.reduceAdd, Nat.reduceEqDiff, Nat.reduceBEq, Nat.reduceLeDiff, reduceCtorEq, ↓reduceIte]
     ·have hmn := JCm (c : Int) (a := k) (b := m - 1) oM oM;have hm0 := JCm (c : Int) (a := 0) (b := k - 1) oM oM;have hd : decide (n - bef (c : Int) - YM c (k - 1) ≥ mdI c k) = true := sO;have hz : YM (c : Int) 0 = 0 := rfl;have w3 : IntKind.i64.wrap (n - bef (c : Int) - YM c (k - 1) - mdI c k) = n - bef (c : Int) - YM c (k + 1 - 1) := by
       rw [Nat.add_sub_cancel, hks, wrap64 oM oM]; omega
      refine JAl ?_;refine wn c345 ?_;simp only [go_sem, w3, Nat.reduceAdd, Nat.reduceEqDiff, Nat.reduceBEq, Nat.reduceLeDiff, reduceCtorEq, ↓reduceIte];refine ⟨m - (k + 1), _, oM, Wk.less ?_, k + 1, oM, oM, rfl, rfl⟩;exact Y6 trivial
   ·have hm := JOa (a := (y : Int) + 1) (b := c) oM;rw [JH7 y oM oM] at hm;have hd : decide (bef (c : Int) > n) = true := sO;have w2 : IntKind.i64.wrap ((c : Int) - 1) = ((c - 1 : Nat) : Int) := by rw [wrap64 oM oM]; omega
    simp only [go_sem, hd, w2, Nat.reduceAdd, Nat.reduceEqDiff, Nat.reduceBEq, Nat.reduceLeDiff, reduceCtorEq, ↓reduceIte];refine ⟨c - 1 - y, _, oM, Wk.refl _, c - 1, oM, oM, rfl, rfl⟩
def JEk (n k : Int) : Str := JFM (if k - ((Lib.itoa n).length : Int) > 0 then k - ((Lib.itoa n).length : Int) else 0) ++ Lib.itoa n
theorem YC {n k : Int} (h0 : 0 ≤ n) (h1 : n ≤ 1000000000) (k1 : k ≤ 10) : (JEk n k).length ≤ 40 := by
 have := Lib.itoa_length_le n oM oM;unfold JEk;simp only [JFM, Vg, List.length_replicate];split <;> omega
theorem Zc (hrep : JFN) (n k : Int) (h0 : 0 ≤ n) (h1 : n ≤ 1000000000) (k0 : 0 ≤ k) (k1 : k ≤ 10) : PT 293 [.int .i64 n, .int .i64 k] (.d (.str (JEk n k))) := by
 refine ok293.pc ?_;have c96 := call96 n oM oM;have hil := Lib.itoa_length_le n oM oM;have hpl := YC h0 h1 k1;unfold JEk at hpl ⊢;generalize Lib.itoa n = s at *;have w1 : IntKind.i64.wrap (k - (s.length : Int)) = k - (s.length : Int) := wrap64 oM oM;have hb : 0 ≤ (if k - (s.length : Int) > 0 then k - (s.length : Int) else 0) ∧ (if k - (s.length : Int) > 0 then k - (s.length : Int) else 0) ≤ 100 := by split <;> omega
 have c291 := hrep _ hb.1 hb.2;generalize hj : (if k - (s.length : Int) > 0 then k - (s.length : Int) else 0) = j at *;simp only [go_sem, ir293, simprocAttr];refine wn c96 ?_;simp only [go_sem, w1, hj, simprocAttr];refine wc c291 ?_
 first | omega | exact ⟨oM, trivial⟩
theorem JOb (hrep : JFN) (d : Int) : ∃ (s : Str) (e : Int), PT 238 [.int .i64 d] (.tup [.d (.str s), .d (.int .i64 e)]) ∧ s.length ≤ 200 := by
 obtain ⟨y, m, dd, e, c, hb⟩ := civ_ex d;have c292 := c.call (by simp [JU]);by_cases he : e = 0
 ·obtain ⟨b1, b2, b3, b4, b5, b6⟩ := hb he;have cy := (Zc hrep y 4 oM oM oM oM).call trivial;have cm := (Zc hrep m 2 oM oM oM oM).call trivial;have cd := (Zc hrep dd 2 oM oM oM oM).call trivial;have ly := YC (n := y) (k := 4) oM oM oM;have lm := YC (n := m) (k := 2) oM oM oM;have ld := YC (n := dd) (k := 2) oM oM oM;generalize JEk y 4 = py at *;generalize JEk m 2 = pm at *;generalize JEk dd 2 = pd at *;have hz : (e != 0) = false := by simp [he]
  refine ⟨py ++ [45] ++ pm ++ [45] ++ pd, 0, ?_, (by first | omega | (simp only [Vg, Vf, Vm]; omega))⟩;refine ok238.pc ?_;simp only [go_sem, JOJ, simprocAttr];refine wn c292 ?_;refine JLT ?_;refine wc cy ?_;refine ⟨(by first | omega | (simp only [Vg, Vf, Vm]; omega)), wn cm ?_⟩;refine zz ?_;refine ⟨(by first | omega | (simp only [Vg, Vf, Vm]; omega)), (by first | omega | (simp only [Vg, Vf, Vm]; omega)), wn cd ?_⟩;refine zz ?_
  first | exact (by first | omega | (simp only [Vg, Vf, Vm]; omega)) | exact ⟨(by first | omega | (simp only [Vg, Vf, Vm]; omega)), trivial⟩
 ·have hz : (e != 0) = true := by simp [he]
  refine ⟨[], e, ?_, sP⟩;refine ok238.pc ?_;simp only [go_sem, JOJ, simprocAttr];refine wn c292 ?_;exact JLT trivial
theorem JOc (d : Int) : ∃ x r e : Int, PT 294 [.int .i64 d] (.tup [.d (.int .i64 x), .d (.int .i64 r), .d (.int .i64 e)]) ∧ 0 ≤ r ∧ r < 86400000 := by
 have c343 := (JGn d (-62135596800000) 253402300799999).call trivial;cases hin : (decide (d ≥ -62135596800000) && decide (d ≤ 253402300799999)) with
 | false =>
  rw [hin] at c343;refine ⟨0, 0, 2, ?_, oM, oM⟩;refine ok294.pc ?_;simp only [go_sem, JOI, Nat.reduceAdd, Nat.reduceEqDiff, Nat.reduceBEq, Nat.reduceLeDiff, reduceCtorEq, ↓reduceIte];refine wn c343 ?_;exact zz58 trivial
 | true =>
  rw [hin] at c343;simp only [Vi, decide_eq_true_eq] at hin;generalize hn : IntKind.i64.wrap (d - -62135596800000) = n;have n0 : 0 ≤ n := by rw [← hn, wrap64 oM oM]; omega
  refine ⟨IntKind.i64.wrap (-719162 + IntKind.i64.wrap (n.tdiv 86400000)), n.tmod 86400000, 0, ?_, ?_, ?_⟩
  ·refine ok294.pc ?_;simp only [go_sem, JOI, Nat.reduceAdd, Nat.reduceEqDiff, Nat.reduceBEq, Nat.reduceLeDiff, reduceCtorEq, ↓reduceIte];refine wn c343 ?_;simp only [go_sem, hn, Vr, Nat.reduceAdd, Nat.reduceEqDiff, Nat.reduceBEq, Nat.reduceLeDiff, reduceCtorEq, ↓reduceIte]
   first | exact ⟨dC, dC, rfl⟩ | exact ⟨dC, dC⟩ | decide
  ·rw [Int.tmod_eq_emod_of_nonneg n0]; omega
  ·rw [Int.tmod_eq_emod_of_nonneg n0]; omega
theorem JSA (hrep : JFN) (d : Int) : ∃ (s : Str) (e : Int), PT 239 [.int .i64 d] (.tup [.d (.str s), .d (.int .i64 e)]) ∧ s.length ≤ 1000 := by
 obtain ⟨x, r, e, c, r0, r1⟩ := JOc d;have c294 := c.call (by simp [JU]);by_cases he : e = 0
 ·obtain ⟨s, e2, c2, hs⟩ := JOb hrep x;have c238 := c2.call (by simp [JU]);have hz : (e != 0) = false := by simp [he]
  by_cases he2 : e2 = 0
  ·have hz2 : (e2 != 0) = false := by simp [he2]
   have q1 : r.tdiv 1000 = r / 1000 := Int.tdiv_eq_ediv_of_nonneg r0;have q2 : IntKind.i64.wrap (r / 1000) = r / 1000 := wrap64 oM oM;have q3 : (r / 1000).tdiv 3600 = r / 1000 / 3600 := Int.tdiv_eq_ediv_of_nonneg oM;have q4 : IntKind.i64.wrap (r / 1000 / 3600) = r / 1000 / 3600 := wrap64 oM oM;have q5 : (r / 1000).tdiv 60 = r / 1000 / 60 := Int.tdiv_eq_ediv_of_nonneg oM;have q6 : IntKind.i64.wrap (r / 1000 / 60) = r / 1000 / 60 := wrap64 oM oM;have q7 : (r / 1000 / 60).tmod 60 = r / 1000 / 60 % 60 := Int.tmod_eq_emod_of_nonneg oM;have q8 : (r / 1000).tmod 60 = r / 1000 % 60 := Int.tmod_eq_emod_of_nonneg oM;have q9 : r.tmod 1000 = r % 1000 := Int.tmod_eq_emod_of_nonneg r0;have ch := (Zc hrep (r / 1000 / 3600) 2 oM oM oM oM).call trivial;have cm := (Zc hrep (r / 1000 / 60 % 60) 2 oM oM oM oM).call trivial;have cs := (Zc hrep (r / 1000 % 60) 2 oM oM oM oM).call trivial;have ck := (Zc hrep (r % 1000) 3 oM oM oM oM).call trivial;have lh := YC (n := r / 1000 / 3600) (k := 2) oM oM oM;have lm := YC (n := r / 1000 / 60 % 60) (k := 2) oM oM oM;have ls := YC (n := r / 1000 % 60) (k := 2) oM oM oM;have lk := YC (n := r % 1000) (k := 3) oM oM oM;generalize JEk (r / 1000 / 3600) 2 = ph at *;generalize JEk (r / 1000 / 60 % 60) 2 = pm at *;generalize JEk (r / 1000 % 60) 2 = ps at *;generalize JEk (r % 1000) 3 = pk at *;by_cases hk : r % 1000 = 0
   ·have hz3 : (r % 1000 != 0) = false := by simp [hk]
    refine ⟨s ++ ([84] ++ ph ++ [58] ++ pm ++ [58] ++ ps) ++ [90], 0, ?_, (by first | omega | (simp only [Vg, Vf, Vm]; omega))⟩;refine JKi.pc ?_;refine JQo ?_;refine wn c294 ?_;refine JLT ?_;refine wn c238 ?_;refine zz82 ?_;refine ⟨dC, dC, wn ch ?_⟩;simp only [go_sem, q5, q6, q7, Nat.reduceAdd, Nat.reduceEqDiff, Nat.reduceBEq, Nat.reduceLeDiff, reduceCtorEq, ↓reduceIte];refine ⟨(by first | omega | (simp only [Vg, Vf, Vm]; omega)), (by first | omega | (simp only [Vg, Vf, Vm]; omega)), dC, dC, wn cm ?_⟩;simp only [go_sem, q8, Nat.reduceAdd, Nat.reduceEqDiff, Nat.reduceBEq, Nat.reduceLeDiff, reduceCtorEq, ↓reduceIte];refine ⟨(by first | omega | (simp only [Vg, Vf, Vm]; omega)), (by first | omega | (simp only [Vg, Vf, Vm]; omega)), dC, wn cs ?_⟩;simp only [go_sem, q9, hz3, Nat.reduceAdd, Nat.reduceEqDiff, Nat.reduceBEq, Nat.reduceLeDiff, reduceCtorEq, ↓reduceIte];exact ⟨(by first | omega | (simp only [Vg, Vf, Vm]; omega)), (by first | omega | (simp only [Vg, Vf, Vm]; omega)), dC, (by first | omega | (simp only [Vg, Vf, Vm]; omega))⟩
   ·have hz3 : (r % 1000 != 0) = true := by simp [hk]
    refine ⟨s ++ ([84] ++ ph ++ [58] ++ pm ++ [58] ++ ps) ++ ([46] ++ pk) ++ [90], 0, ?_, (by first | omega | (simp only [Vg, Vf, Vm]; omega))⟩;refine JKi.pc ?_;refine JQo ?_;refine wn c294 ?_;refine JLT ?_;refine wn c238 ?_;refine zz82 ?_;refine ⟨dC, dC, wn ch ?_⟩;simp only [go_sem, q5, q6, q7, Nat.reduceAdd, Nat.reduceEqDiff, Nat.reduceBEq, Nat.reduceLeDiff, reduceCtorEq, ↓reduceIte];refine ⟨(by first | omega | (simp only [Vg, Vf, Vm]; omega)), (by first | omega | (simp only [Vg, Vf, Vm]; omega)), dC, dC, wn cm ?_⟩;simp only [go_sem, q8, Nat.reduceAdd, Nat.reduceEqDiff, Nat.reduceBEq, Nat.reduceLeDiff, reduceCtorEq, ↓reduceIte];refine ⟨(by first | omega | (simp only [Vg, Vf, Vm]; omega)), (by first | omega | (simp only [Vg, Vf, Vm]; omega)), dC, wn cs ?_⟩;simp only [go_sem, q9, hz3, Nat.reduceAdd, Nat.reduceEqDiff, Nat.reduceBEq, Nat.reduceLeDiff, reduceCtorEq, ↓reduceIte];refine ⟨(by first | omega | (simp only [Vg, Vf, Vm]; omega)), (by first | omega | (simp only [Vg, Vf, Vm]; omega)), dC, dC, wn ck ?_⟩;refine zz ?_;exact ⟨(by first | omega | (simp only [Vg, Vf, Vm]; omega)), (by first | omega | (simp only [Vg, Vf, Vm]; omega)), (by first | omega | (simp only [Vg, Vf, Vm]; omega))⟩
  ·have hz2 : (e2 != 0) = true := by simp [he2]
   refine ⟨[], e2, ?_, sP⟩;refine JKi.pc ?_;refine JQo ?_;refine wn c294 ?_;refine JLT ?_;refine wn c238 ?_;simp only [go_sem, hz2, Nat.reduceAdd, Nat.reduceEqDiff, Nat.reduceBEq, Nat.reduceLeDiff, reduceCtorEq, ↓reduceIte]
 ·have hz : (e != 0) = true := by simp [he]
  refine ⟨[], e, ?_, sP⟩;refine JKi.pc ?_;refine JQo ?_;refine wn c294 ?_;exact JLT trivial
def XC (s : Str) (e x : Int) : Val × Int := if e != 0 then (zeroV, UI x e) else (.mk 4 0 0 s [] [], x)
theorem Ua (s : Str) (e x : Int) : (XC s e x).1.list = [] ∧ (XC s e x).1.fields = [] := by
 unfold XC;split <;> exact ⟨rfl, rfl⟩
theorem ZI (s : Str) (e x : Int) : (XC s e x).1.text.length ≤ s.length := by
 unfold XC;split
 ·exact Nat.zero_le _
 ·exact Nat.le_refl _
theorem JH9 (p : Int × Int) : (JEe p).1.length ≤ 100 := by
 unfold JEe;split
 ·simp
 ·rename_i h;exact JOK (sX h)
theorem JLh (b : Bool) : (JAD b).length ≤ 5 := by cases b <;> decide
theorem tof_ex (hrep : JFN) (v env : Val) (x : Int) : ∃ (w : Val) (y : Int), JT 187 [JB v] env x (.d (JB w)) y ∧ w.list = [] ∧ w.fields = [] ∧ w.text.length ≤ v.text.length + 1000 := by
 have cf := fun y => (J0 env x y).to trivial
 by_cases hk : v.kind = 1
 ·have q0 : ((0 : Int) != 0) = false := rfl;have k1 : (v.kind == 1) = true := by simp [hk]
  have k2 : (v.kind == 2) = false := by simp [hk]
  have k3 : (v.kind == 3) = false := by simp [hk]
  have k4 : (v.kind == 4) = false := by simp [hk]
  have k6 : (v.kind == 6) = false := by simp [hk]
  have k7 : (v.kind == 7) = false := by simp [hk]
  have c236 := (JRk (v.int == 1)).call trivial;have hsl : ((JAD (v.int == 1))).length ≤ v.text.length + 1000 := by have := JLh (v.int == 1); omega
  refine ⟨(XC (JAD (v.int == 1)) 0 x).1, (XC (JAD (v.int == 1)) 0 x).2, ?_, (Ua _ _ _).1, (Ua _ _ _).2, Nat.le_trans (ZI _ _ _) hsl⟩;refine JEc.co (k := false) (JI _ _ _) trivial ?_;rw [JA v];refine JIz ?_;refine wn c236 ?_;refine JI0 ?_;have hr : XC (JAD (v.int == 1)) 0 x = (.mk 4 0 0 (JAD (v.int == 1)) [] [], x) := rfl;rw [hr];have c37 := (Yy (JAD (v.int == 1))).call trivial
  try refine zz1 ?_
  refine wn c37 ?_;rw [JA];refine zz1 ?_;exact zf
 by_cases hk : v.kind = 2
 ·have q0 : ((0 : Int) != 0) = false := rfl;have k1 : (v.kind == 1) = false := by simp [hk]
  have k2 : (v.kind == 2) = true := by simp [hk]
  have k3 : (v.kind == 3) = false := by simp [hk]
  have k4 : (v.kind == 4) = false := by simp [hk]
  have k6 : (v.kind == 6) = false := by simp [hk]
  have k7 : (v.kind == 7) = false := by simp [hk]
  have c177 := (Xy v).call trivial;rw [JA v] at c177;have c237 := (JGi hrep (ofN v)).call (by simp [JU]);simp only [Jn] at c177 c237;have hxl := JH9 (ofN v);generalize JEe (ofN v) = X at *;have hsl : (X.1).length ≤ v.text.length + 1000 := oM;refine ⟨(XC X.1 X.2 x).1, (XC X.1 X.2 x).2, ?_, (Ua _ _ _).1, (Ua _ _ _).2, Nat.le_trans (ZI _ _ _) hsl⟩;refine JEc.co (k := false) (JI _ _ _) trivial ?_;rw [JA v];refine JIz ?_;refine wn c177 ?_;refine JI0 ?_;refine wn c237 ?_;refine JI0 ?_;apply ik <;> intro h
  ·have hr : XC X.1 X.2 x = (zeroV, UI x X.2) := by unfold XC; rw [if_pos h]
   rw [hr];refine wn (cf X.2) ?_;generalize zeroV = z at *;rw [JA];refine zz1 ?_;exact zf
  ·have hr : XC X.1 X.2 x = (.mk 4 0 0 X.1 [] [], x) := by unfold XC; rw [if_neg (nF h)]
   rw [hr];have c37 := (Yy X.1).call trivial
   try refine zz1 ?_
   refine wn c37 ?_;rw [JA];refine zz1 ?_;exact zf
 by_cases hk : v.kind = 3
 ·have q0 : ((0 : Int) != 0) = false := rfl;have k1 : (v.kind == 1) = false := by simp [hk]
  have k2 : (v.kind == 2) = false := by simp [hk]
  have k3 : (v.kind == 3) = true := by simp [hk]
  have k4 : (v.kind == 4) = false := by simp [hk]
  have k6 : (v.kind == 6) = false := by simp [hk]
  have k7 : (v.kind == 7) = false := by simp [hk]
  have c177 := (Xy v).call trivial;rw [JA v] at c177;have c237 := (JGi hrep (ofN v)).call (by simp [JU]);simp only [Jn] at c177 c237;have hxl := JH9 (ofN v);generalize JEe (ofN v) = X at *;have hsl : (X.1).length ≤ v.text.length + 1000 := oM;refine ⟨(XC X.1 X.2 x).1, (XC X.1 X.2 x).2, ?_, (Ua _ _ _).1, (Ua _ _ _).2, Nat.le_trans (ZI _ _ _) hsl⟩;refine JEc.co (k := false) (JI _ _ _) trivial ?_;rw [JA v];refine JIz ?_;refine wn c177 ?_;refine JI0 ?_;refine wn c237 ?_;refine JI0 ?_;apply ik <;> intro h
  ·have hr : XC X.1 X.2 x = (zeroV, UI x X.2) := by unfold XC; rw [if_pos h]
   rw [hr];refine wn (cf X.2) ?_;generalize zeroV = z at *;rw [JA];refine zz1 ?_;exact zf
  ·have hr : XC X.1 X.2 x = (.mk 4 0 0 X.1 [] [], x) := by unfold XC; rw [if_neg (nF h)]
   rw [hr];have c37 := (Yy X.1).call trivial
   try refine zz1 ?_
   refine wn c37 ?_;rw [JA];refine zz1 ?_;exact zf
 by_cases hk : v.kind = 4
 ·have q0 : ((0 : Int) != 0) = false := rfl;have k1 : (v.kind == 1) = false := by simp [hk]
  have k2 : (v.kind == 2) = false := by simp [hk]
  have k3 : (v.kind == 3) = false := by simp [hk]
  have k4 : (v.kind == 4) = true := by simp [hk]
  have k6 : (v.kind == 6) = false := by simp [hk]
  have k7 : (v.kind == 7) = false := by simp [hk]
  have hsl : (v.text).length ≤ v.text.length + 1000 := oM;refine ⟨(XC v.text 0 x).1, (XC v.text 0 x).2, ?_, (Ua _ _ _).1, (Ua _ _ _).2, Nat.le_trans (ZI _ _ _) hsl⟩;refine JEc.co (k := false) (JI _ _ _) trivial ?_;rw [JA v];refine JIz ?_;have hr : XC v.text 0 x = (.mk 4 0 0 v.text [] [], x) := rfl;rw [hr];have c37 := (Yy v.text).call trivial
  try refine zz1 ?_
  refine wn c37 ?_;rw [JA];refine zz1 ?_;exact zf
 by_cases hk : v.kind = 6
 ·have q0 : ((0 : Int) != 0) = false := rfl;have k1 : (v.kind == 1) = false := by simp [hk]
  have k2 : (v.kind == 2) = false := by simp [hk]
  have k3 : (v.kind == 3) = false := by simp [hk]
  have k4 : (v.kind == 4) = false := by simp [hk]
  have k6 : (v.kind == 6) = true := by simp [hk]
  have k7 : (v.kind == 7) = false := by simp [hk]
  obtain ⟨s, e, c, hsb⟩ := JOb hrep v.int;have c238 := c.call (by simp [JU]);have hsl : (s).length ≤ v.text.length + 1000 := oM;refine ⟨(XC s e x).1, (XC s e x).2, ?_, (Ua _ _ _).1, (Ua _ _ _).2, Nat.le_trans (ZI _ _ _) hsl⟩;refine JEc.co (k := false) (JI _ _ _) trivial ?_;rw [JA v];refine JIz ?_;refine wn c238 ?_;refine JI0 ?_;apply ik <;> intro h
  ·have hr : XC s e x = (zeroV, UI x e) := by unfold XC; rw [if_pos h]
   rw [hr];refine wn (cf e) ?_;generalize zeroV = z at *;rw [JA];refine zz1 ?_;exact zf
  ·have hr : XC s e x = (.mk 4 0 0 s [] [], x) := by unfold XC; rw [if_neg (nF h)]
   rw [hr];have c37 := (Yy s).call trivial
   try refine zz1 ?_
   refine wn c37 ?_;rw [JA];refine zz1 ?_;exact zf
 by_cases hk : v.kind = 7
 ·have q0 : ((0 : Int) != 0) = false := rfl;have k1 : (v.kind == 1) = false := by simp [hk]
  have k2 : (v.kind == 2) = false := by simp [hk]
  have k3 : (v.kind == 3) = false := by simp [hk]
  have k4 : (v.kind == 4) = false := by simp [hk]
  have k6 : (v.kind == 6) = false := by simp [hk]
  have k7 : (v.kind == 7) = true := by simp [hk]
  obtain ⟨s, e, c, hsb⟩ := JSA hrep v.int;have c239 := c.call (by simp [JU]);have hsl : (s).length ≤ v.text.length + 1000 := oM;refine ⟨(XC s e x).1, (XC s e x).2, ?_, (Ua _ _ _).1, (Ua _ _ _).2, Nat.le_trans (ZI _ _ _) hsl⟩;refine JEc.co (k := false) (JI _ _ _) trivial ?_;rw [JA v];refine JIz ?_;refine wn c239 ?_;refine JI0 ?_;apply ik <;> intro h
  ·have hr : XC s e x = (zeroV, UI x e) := by unfold XC; rw [if_pos h]
   rw [hr];refine wn (cf e) ?_;generalize zeroV = z at *;rw [JA];refine zz1 ?_;exact zf
  ·have hr : XC s e x = (.mk 4 0 0 s [] [], x) := by unfold XC; rw [if_neg (nF h)]
   rw [hr];have c37 := (Yy s).call trivial
   try refine zz1 ?_
   refine wn c37 ?_;rw [JA];refine zz1 ?_;exact zf
 have q0 : ((18 : Int) != 0) = true := rfl;have k1 : (v.kind == 1) = false := by simp; assumption
 have k2 : (v.kind == 2) = false := by simp; assumption
 have k3 : (v.kind == 3) = false := by simp; assumption
 have k4 : (v.kind == 4) = false := by simp; assumption
 have k6 : (v.kind == 6) = false := by simp; assumption
 have k7 : (v.kind == 7) = false := by simp; assumption
 refine ⟨zeroV, UI x 18, ?_, rfl, rfl, Nat.zero_le _⟩;refine JEc.co (k := false) (JI _ _ _) trivial ?_;rw [JA v];refine JIz ?_;refine wn (cf 18) ?_;generalize zeroV = z at *;rw [JA];refine zz1 ?_;exact zf
theorem JOd (v : Val) (l : List Part) (h : szV v ≤ 1000000) : UH (XM v l).1 ≤ 1000000 := by
 unfold XM;split
 ·simp [UH]
 ·cases e : Yj l [v] with
  | none => simp [JBx, UH]
  | some now =>
   have := JEW l e;simp only [UH] at this;simp only [JBx];split
   ·simp [UH]
   ·show UH now ≤ _;omega
def JOe (i : Int) (v : Val) : Bool := (((i == 0) && (v.kind != 2)) || !isN v) || decide ((ofN v).2 > i)
noncomputable def JGo (e : Exp) (env : Val) (x : Int) : (Val × Int) :=
 let F := XM env (JH e.text).1
 if F.2 != 0 then (zeroV, UI x F.2) else if F.1.any (JOe e.int) then (zeroV, UI x 18)
 else if decide (((F.1.length : Nat) : Int) > 256) then (zeroV, UI x 9)
 else if e.int == 0 then (ZZ true (JCj (F.1.map ofN)).1 (JCj (F.1.map ofN)).2, JEa (JCj (F.1.map ofN)).2 x)
 else if (JCj (F.1.map ofN)).2 != 0 then (zeroV, UI x (JCj (F.1.map ofN)).2)
 else (ZZ false (addN (JCj (F.1.map ofN)).1 (0, e.int)).1 (addN (JCj (F.1.map ofN)).1 (0, e.int)).2, JEa (addN (JCj (F.1.map ofN)).1 (0, e.int)).2 x)
theorem JEl : ∀ (n : Nat) (s : Str) {ps : List Part}, Xk n s = some ps → ∀ p ∈ ps, J7 p = true
 | 0, s, ps, h => by cases h; intro p hp; cases hp
 | n + 1, s, ps, h => by
  simp only [Xk] at h;split at h
  ·cases h; intro p hp; cases hp
  split at h
  ·cases h
  rename_i hv;split at h
  ·rename_i qs hq;cases h;intro p hp;rcases VA.1 hp with rfl | hp
   ·simp only [Vx, Bool.not_eq_true', not_or, Bool.not_eq_false] at hv;exact hv.2
   ·exact JEl n _ hq p hp
  ·cases h
theorem JBF (s : Str) : ∀ p ∈ (JH s).1, J7 p = true := by
 unfold JH;split
 ·intro p hp; cases hp
 split
 ·intro p hp; cases hp
 split
 ·rename_i ps h;split
  ·intro p hp; cases hp
  ·exact JEl _ _ h
 ·intro p hp; cases hp
theorem ZJ (s : Str) : (JH s).1.length ≤ 16 := by
 unfold JH;split
 ·simp
 split
 ·simp
 split
 ·split
  ·simp
  ·rename_i h; simp at h ⊢; omega
 ·simp
theorem JSB (e : Exp) (env : Val) (x : Int) (ht : e.text.length ≤ 68719476736) (hsz : szV env ≤ 1000000) (JAp : CT 179 [.d (.list 3 ((JH e.text).1.map Jr))] [] (.d (.bool (evP (JH e.text).1))) []) :
  JT 127 [JL e] env x (.d (JB (JGo e env x).1)) (JGo e env x).2 := by
 refine ok127.co (k := false) (JI _ _ _) trivial ?_;have c80 := (JCc e.text ht).call (by simp [JU]);have hpl := ZJ e.text;have hpv := JBF e.text;have c178 := (JKe env (JH e.text).1 oM (fun p hp => by have := (YZ (hpv p hp)).1; omega) hsz JAp).call (by simp [JU]);have hfz := JOd env (JH e.text).1 hsz;generalize hT : JGo e env x = T;unfold JGo at hT;simp only at hT;generalize JH e.text = PS at *;generalize XM env PS.1 = F at *;have hfl := YA F.1;have cf := fun y => (J0 env x y).to trivial
 rw [JA env] at c178;rw [JE, JA T.1];simp only [go_sem, ir127, mC, Va, Vb, Nat.reduceAdd, Nat.reduceEqDiff, Nat.reduceBEq, Nat.reduceLeDiff, reduceCtorEq, ↓reduceIte];refine wn c80 ?_;refine zz1 ?_;refine wn c178 ?_;refine zz1 ?_;apply ik <;> intro h0
 ·rw [if_pos h0] at hT;rw [← hT];refine wn (cf F.2) ?_;generalize zeroV = z at *;rw [JA];refine zz1 ?_;exact zf
 rw [if_neg (nF h0)] at hT
 try refine zz59 ?_
 refine ⟨(by intro x hx; cases hx), ?_⟩;refine JJ (fun n s => ∃ k : Nat, k ≤ F.1.length ∧ n = F.1.length - k ∧ (∀ (i : Nat) (h : i < F.1.length), i < k → JOe e.int F.1[i] = false) ∧
  s = ⟨[(0, .ref 1000 0), (3, .ref 3 0), (4, .ref 4 0), (9, .ms 70 k), (37, .d (.list 6 (F.1.map JB))), (38, .d (.int .i64 F.1.length)), (39, .d (.int .i64 k))],
   [(1000, .box [.d (.int .i64 env.kind), .d (.int .i64 env.int), .d (.int .i64 env.scale), .d (.str env.text), .d (.list 6 (env.list.map JB)), .d (.list 7 (env.fields.map Jh)), .d (.int .i64 x)]),
    (3, .box [.d (.int .i64 e.op), .d (.int .i64 e.int), .d (.str e.text), .d (.list 6 (e.value.map JB)), .d (.list 5 (e.args.map JL))]),
    (4, .box [.d (.int .i64 0), .d (.int .i64 0), .d (.int .i64 0), .d (.str []), .d (.nil 6), .d (.nil 7)]),
    (70, .row k 2 (((F.1.take k).map ofN).map Jn))]⟩) ?_ ?_
 ·refine ⟨_, _, (Wk.JId 9 70 2 rfl rfl dC).trans (Wk.less ?_), 0, Nat.zero_le _, rfl, (by intro i h hi; omega), rfl⟩;refine zz75 ?_;exact ⟨rfl, rfl⟩
 ·rintro n s ⟨k, hk, rfl, hinv, rfl⟩;by_cases hlt : k < F.1.length
  ·have hx := Jy hlt;have hd := dT hlt;have c176 := (Yq F.1[k]).call trivial;have c177 := (Xy F.1[k]).call trivial;have c18 := cf 18;rw [JA] at c176 c177;simp only [Jn] at c177;refine zz8 ?_;refine ⟨oM, ?_⟩;refine ⟨F.1[k].kind != 2, _, [([], []), ([11], []), ([], [])], rfl, fun h => ?_, fun _ => rfl, ?_⟩
   ·refine zz ?_;exact zf
   try refine zz ?_
   refine ⟨!isN F.1[k], _, [([11], []), ([], []), ([], [])], rfl, fun h => ?_, fun _ => rfl, ?_⟩
   ·try refine zz ?_
    refine JC rfl c176 trivial ?_;refine zz ?_;exact zf
   try refine zz ?_
   refine ⟨decide ((ofN F.1[k]).2 > e.int), _, [([11], []), ([], []), ([], []), ([], []), ([3], []), ([], [])], rfl, fun h => ?_, fun _ => rfl, ?_⟩
   ·try refine zz ?_
    refine JC rfl c177 trivial ?_;refine zz ?_;exact zf
   refine zz ?_;have hbad : JOe e.int F.1[k] = ((((e.int == 0) && (F.1[k].kind != 2)) || !isN F.1[k]) || decide ((ofN F.1[k]).2 > e.int)) := rfl;refine ⟨rfl, fun hf => ?_, fun hf => ?_⟩
   ·rw [← hbad] at hf;have : F.1.any (JOe e.int) = true := by rw [List.any_eq_true]; exact ⟨_, Vk hlt, hf⟩
    rw [if_pos this] at hT;rw [← hT];refine wn c18 ?_;generalize zeroV = z at *;rw [JA];refine zz1 ?_;exact zf
   ·rw [← hbad] at hf
    try refine zz ?_
    refine wn c177 ?_;refine zz76 ?_;refine ⟨(by intro x hx; rcases List.mem_singleton.1 hx with rfl; rfl), oM, F.1.length - (k + 1), _, oM, Wk.less ?_, k + 1, oM, rfl, ?_, rfl⟩
    ·rw [List.take_succ_eq_append_getElem hlt, Vw, Vw];simp only [go_sem, Jj k oM, Va, Vb, Jn, Nat.reduceAdd, Nat.reduceEqDiff, Nat.reduceBEq, Nat.reduceLeDiff, reduceCtorEq, ↓reduceIte]
    ·intro i h1 hi;by_cases e : i = k
     ·subst e; exact hf
     ·exact hinv i h1 oM
  ·have hd := dF hlt;obtain rfl : k = F.1.length := oM;have hno : F.1.any (JOe e.int) = false := by
    rw [List.any_eq_false];intro v hv;obtain ⟨i, hi, rfl⟩ := List.getElem_of_mem hv;rw [hinv i hi hi];decide
   rw [if_neg (nF hno)] at hT;refine zz77 ?_;have c9 := cf 9;have c180 := Ui.callFr (i := 70) (v := F.1.length) (JRi (F.1.map ofN) sO) (by simp [JU]);apply ik <;> intro h1
   ·rw [if_pos h1] at hT;rw [← hT];refine wn c9 ?_;generalize zeroV = z at *;rw [JA];refine JFE ?_;exact zf
   rw [if_neg (nF h1)] at hT;generalize JCj (F.1.map ofN) = S at *;simp only [Jn] at c180
   try refine JFE ?_
   apply ik <;> intro h2
   ·rw [if_pos h2] at hT;have c181 := (JDY true S.1 S.2 env x).to trivial;simp only [Jn] at c181;rw [← hT];generalize ZZ true S.1 S.2 = z at *;refine wn c180 ?_;refine JFE ?_;refine wn c181 ?_;rw [JA];refine JFE ?_;exact zf
   rw [if_neg (nF h2)] at hT
   try refine JFE ?_
   refine wn c180 ?_;refine JFE ?_;apply ik <;> intro h3
   ·rw [if_pos h3] at hT;rw [← hT];have c3 := cf S.2;refine wn c3 ?_;generalize zeroV = z at *;rw [JA];refine JFE ?_;exact zf
   rw [if_neg (nF h3)] at hT;have c22 := (JJR S.1 (0, e.int)).call (by simp [JU]);have c181 := (JDY false (addN S.1 (0, e.int)).1 (addN S.1 (0, e.int)).2 env x).to trivial;generalize addN S.1 (0, e.int) = A at *;simp only [Jn] at c22 c181;rw [← hT];generalize ZZ false A.1 A.2 = z at *
   try refine JFE ?_
   refine wn c22 ?_;refine JFE ?_;refine wn c181 ?_;rw [JA];refine JFE ?_;exact zf
theorem JLi (v : Val) (l : List Part) : UH (XM v l).1 ≤ szV v := by
 unfold XM;split
 ·simp [UH]
 ·cases e : Yj l [v] with
  | none => simp [JBx, UH]
  | some now =>
   have := JEW l e;simp only [UH] at this;simp only [JBx];split
   ·simp [UH]
   ·show UH now ≤ _;omega
def ZK (v : Val) (l : List Part) : Val × Int :=
 if (XM v l).2 != 0 then (zeroV, (XM v l).2) else if evP l then (.mk 8 0 0 [] (XM v l).1 [], 0) else ((((XM v l).1)[0]?).getD zeroV, 0)
theorem JOf {v : Val} {l : List Part} (h : ((XM v l).2 != 0) = false) (h2 : evP l = false) : 0 < (XM v l).1.length := by
 simp only [bne_eq_false_iff_eq] at h;unfold XM at h ⊢;split at h
 ·rename_i h3;simp only at h;rw [h] at h3; cases h3
 ·rename_i h3;rw [if_neg h3];cases e : Yj l [v] with
  | none => rw [e] at h; cases h
  | some now =>
   rw [e] at h;simp only [JBx] at h ⊢;split at h
   ·cases h
   ·rename_i h4;rw [if_neg h4];simp only [h2, Vs, Bool.and_true, beq_iff_eq] at h4;show 0 < now.length;omega
theorem JKv (v : Val) (l : List Part) (hl : l.length ≤ 68719476736) (hn : ∀ p ∈ l, p.name.length ≤ 68719476736) (hsz : szV v ≤ 1000000) (JAp : CT 179 [.d (.list 3 (l.map Jr))] [] (.d (.bool (evP l))) []) :
  PT 125 [JB v, .list 3 (l.map Jr)] (.tup [.d (JB (ZK v l).1), .d (.int .i64 (ZK v l).2)]) := by
 refine ok125.pc ?_;have c178 := (JKe v l hl hn hsz JAp).call (by simp [JU]);have hne := @JOf v l;generalize hT : ZK v l = T;unfold ZK at hT;generalize XM v l = F at *;rw [JA v] at c178;rw [JA v, JA T.1];simp only [go_sem, ir125, simprocAttr];refine wc c178 ?_;apply ik <;> intro h0
 ·rw [if_pos h0] at hT;rw [← hT];rfl
 rw [if_neg (nF h0)] at hT
 try refine zz ?_
 refine wc JAp ?_;apply ik <;> intro h1
 ·rw [if_pos h1] at hT;rw [← hT];rfl
 rw [if_neg (nF h1)] at hT;have h2 := hne h0 h1;have hx := Jy h2;have e0 : Int.toNat 0 = 0 := rfl;rw [Vl h2] at hT;simp only [Vp] at hT;rw [← hT]
 try simp only [go_sem, hx, e0, Vc, simprocAttr]
 first | exact ⟨oM, rfl⟩ | omega
def ptB (p : Int) : Bool := (decide (p ≥ 0) && decide (p ≤ 1114111)) && (decide (p < 55296) || decide (p > 57343))
def JBG (l : List Int) : Str × Int := if l.all ptB then (l.flatMap fun p => Lib.encodeRune p, 0) else ([], 2)
def JSC : Prop := ∀ l : List Int, l.length ≤ 17179869184 → CT 185 [.d (.list 1 (l.map (.int .i64)))] [] (.tup [.d (.str (JBG l).1), .d (.int .i64 (JBG l).2)]) []
theorem JIA (n : Int) : (Lib.encodeRune n).length ≤ 4 := by
 have := Lib.runeCells_le n;rw [Lib.runeCells_length] at this;exact this.2
theorem JEm : ∀ l : List Int, (l.flatMap fun p => Lib.encodeRune p).length ≤ 4 * l.length
 | [] => by simp
 | p :: r => by
  have := JEm r;have := JIA p;simp only [List.flatMap_cons, Vg, Vf];omega
theorem JIB (l : List Int) : (JBG l).1.length ≤ 4 * l.length := by
 unfold JBG;split
 ·exact JEm l
 ·simp
def loI (f : Int) (n : Nat) : Int := if (n : Int) < f then (n : Int) else f
def JEn (a f t : Val) (x : Int) : Val × Int :=
 if x != 0 then (zeroV, x) else if ((a.kind != 4) || (f.kind != 2)) || (t.kind != 2) then (zeroV, UI x 18)
 else if (Zo a.text).2 != 0 then (zeroV, UI x 16)
 else if decide (f.int < 0) || decide (f.int > t.int) then (zeroV, UI x 2)
 else (.mk 4 0 0 (JBG (((Zo a.text).1.drop (loI f.int (Zo a.text).1.length).toNat).take (loI t.int (Zo a.text).1.length - loI f.int (Zo a.text).1.length).toNat)).1 [] [], x)
theorem JIC (s : Str) : (Zo s).1.length ≤ s.length := by
 unfold Zo;split
 ·have := JEj (s.length + 1) s 0;exact Nat.le_trans this oM
 ·simp
theorem JOg (a f t : Val) (x : Int) : (JEn a f t x).1.text.length ≤ 4 * a.text.length ∧ (JEn a f t x).1.list = [] ∧ (JEn a f t x).1.fields = [] := by
 unfold JEn;split
 ·exact ⟨Nat.zero_le _, rfl, rfl⟩
 split
 ·exact ⟨Nat.zero_le _, rfl, rfl⟩
 split
 ·exact ⟨Nat.zero_le _, rfl, rfl⟩
 split
 ·exact ⟨Nat.zero_le _, rfl, rfl⟩
 ·refine ⟨?_, rfl, rfl⟩;have h1 := JIB (((Zo a.text).1.drop (loI f.int (Zo a.text).1.length).toNat).take (loI t.int (Zo a.text).1.length - loI f.int (Zo a.text).1.length).toNat);have h2 := JIC a.text;simp only [List.length_take, List.length_drop] at h1;show (JBG _).1.length ≤ _;omega
theorem JSD (ht : JSC) (a f t env : Val) (x : Int) (hal : a.text.length ≤ 17179869184) : JT 132 [JB a, JB f, JB t] env x (.d (JB (JEn a f t x).1)) (JEn a f t x).2 := by
 refine ok132.co (k := false) (JI _ _ _) trivial ?_;have c18 := (J0 env x 18).to trivial;have c16 := (J0 env x 16).to trivial;have c2 := (J0 env x 2).to trivial;have c184 := (JR6 a.text oM).call (by simp [JU]);have hpl := JIC a.text;generalize hT : JEn a f t x = T;unfold JEn at hT;generalize Zo a.text = N at *;rw [JA a, JA f, JA t, JA T.1];simp only [go_sem, ir132, mC, Va, Vb, simprocAttr];apply ik <;> intro h0
 ·rw [if_pos h0] at hT;rw [← hT]
  try exact ⟨rfl, rfl⟩
 rw [if_neg (nF h0)] at hT
 try refine zz1 ?_
 refine sq (f.kind != 2) ?_ ?_
 ·exact zz1 trivial
 refine zz1 ?_;refine sq (t.kind != 2) ?_ ?_
 ·exact zz1 trivial
 refine zz1 ?_;apply ik <;> intro h1
 ·rw [if_pos h1] at hT;rw [← hT];refine wn c18 ?_;generalize zeroV = z at *;rw [JA];refine zz1 ?_;exact zf
 rw [if_neg (nF h1)] at hT
 try refine zz1 ?_
 refine wn c184 ?_;refine zz1 ?_;apply ik <;> intro h2
 ·rw [if_pos h2] at hT;rw [← hT];refine wn c16 ?_;generalize zeroV = z at *;rw [JA];refine zz1 ?_;exact zf
 rw [if_neg (nF h2)] at hT
 try refine zz1 ?_
 refine sq (decide (f.int > t.int)) ?_ ?_
 ·exact zz1 trivial
 refine zz1 ?_;apply ik <;> intro h3
 ·rw [if_pos h3] at hT;rw [← hT];refine wn c2 ?_;generalize zeroV = z at *;rw [JA];refine zz1 ?_;exact zf
 rw [if_neg (nF h3)] at hT;simp only [Bool.or_eq_false_iff, decide_eq_false_iff_not] at h3;have hlo : loI f.int N.1.length = if (N.1.length : Int) < f.int then (N.1.length : Int) else f.int := rfl;have hhi : loI t.int N.1.length = if (N.1.length : Int) < t.int then (N.1.length : Int) else t.int := rfl;have hb : 0 ≤ loI f.int N.1.length ∧ loI f.int N.1.length ≤ loI t.int N.1.length ∧ loI t.int N.1.length ≤ N.1.length := by
  rw [hlo, hhi];refine ⟨?_, ?_, ?_⟩ <;> split <;> (try split) <;> omega
 try simp only [go_sem, mC, Vc, ← hlo, ← hhi, Va, Vb, simprocAttr]
 generalize loI f.int N.1.length = lo at *;generalize loI t.int N.1.length = hi at *;have c185 := ht ((N.1.drop lo.toNat).take (hi - lo).toNat) (by simp only [List.length_take, List.length_drop]; omega);have c37 := (Yy (JBG ((N.1.drop lo.toNat).take (hi - lo).toNat)).1).call trivial;generalize JBG ((N.1.drop lo.toNat).take (hi - lo).toNat) = X at *;rw [List.map_take, List.map_drop] at c185;rw [← hT];refine ⟨⟨oM, oM, oM⟩, wn c185 ?_⟩;refine zz1 ?_;refine wn c37 ?_;rw [JA];refine zz1 ?_;exact zf
end Go.Proofs
namespace Go.Proofs
open Go Av Go.RowKit Go.Shelf
variable {k : Nat}
set_option maxHeartbeats 1600000 in
set_option maxRecDepth 1000000 in
theorem JOh (p : Int) (w : World) : Calls Tryz.prog 233 #[.int .i64 p] w fun e w' => e = .returned (.bool (ptB p)) ∧ w' = w := by
 go_enter Tryz.func233, Tryz.ntmps233
 go_wp2
 all_goals go_ret
 all_goals refine ⟨?_, rfl⟩
 all_goals congr 2
 all_goals unfold ptB
 all_goals simp only [ge_iff_le, gt_iff_lt]
 all_goals first | (simp; done) | (simp; omega) | (simp [*]; done) | (simp [*]; omega)
def enL (l : List Int) : List UInt8 := l.flatMap fun p => Lib.encodeRune p
theorem JOi (l : List Int) (h : k < l.length) : enL (l.take (k + 1)) = enL (l.take k) ++ Lib.encodeRune (l.getD k 0) := by
 rw [List.take_add_one, Vl h];simp only [enL, List.getD_eq_getElem?_getD, Vl h, Option.toList_some, List.flatMap_append, List.flatMap_cons, List.flatMap_nil, List.append_nil, Vp]
theorem JSE (l : List Int) : (enL l).length ≤ 4 * l.length := JEm l
theorem JOj {l : List Int} (h : k < l.length) (ha : (l.take k).all ptB = true) (hp : ptB (l.getD k 0) = true) : (l.take (k + 1)).all ptB = true := by
 rw [List.take_add_one, Vl h, List.all_append, ha];simpa [List.getD, Vl h] using hp
theorem JSF {l : List Int} (h : k < l.length) (hp : ptB (l.getD k 0) = false) : l.all ptB = false := by
 have hm : l.getD k 0 ∈ l := by simp [List.getD, Vl h]
 cases e : l.all ptB with
 | false => rfl
 | true => rw [List.all_eq_true.1 e _ hm] at hp; cases hp
theorem JSG {p : Int} (h : ptB p = true) : 0 ≤ p ∧ p ≤ 1114111 := by
 unfold ptB at h;simp only [ge_iff_le, gt_iff_lt, Vi, Vx, decide_eq_true_eq] at h;exact h.1
set_option maxHeartbeats 6400000 in
set_option maxRecDepth 1000000 in
theorem JLj (a : Option Addr) (cap : Nat) (l : List Int) (w : World) (hl : l.length ≤ 17179869184)
  (hr : ∀ k, k < l.length → ∃ b o, a = some ⟨b, o, none⟩ ∧ b < w.heap.size ∧ w.cell? ⟨b, o + k, none⟩ = some (.int .i64 (l.getD k 0))) :
  Calls Tryz.prog 185 #[.slice a l.length cap] w fun e w' => e = .returned (.tuple #[.string ⟨(JBG l).1.toArray⟩, .int .i64 (JBG l).2]) ∧ Below w.heap.size w w' := by
 go_enter Tryz.func185, Tryz.ntmps185
 go_wp2
 go_loopw [9] (fun i wr => ∃ k : Nat, k ≤ l.length ∧ i = .int .i64 k ∧ Lib.IsBuilderF 269 5 w.heap.size w.heap.size (Lib.byteCells (enL (l.take k))) wr ∧ Below w.heap.size w wr ∧ (l.take k).all ptB = true) (fun i wr => l.length - (intOf i).toNat)
 case atStart =>
  exact ⟨0, Nat.zero_le _, rfl, Lib.IsBuilderF.of (Lib.fresh_isBuilder 269 5 w), (Below.refl _ w).alloc (Nat.le_refl _) _, rfl⟩
 case round =>
  obtain ⟨k, hk, rfl, hI, hbw, hall⟩ := hrel;have hsz := hbw.size;by_cases hlt : k < l.length
  ·obtain ⟨b, o, rfl, hb, hcell⟩ := hr k hlt;have hc2 := (hbw.cell hb).trans hcell;generalize hpp : l.getD k 0 = p at hc2;have hP := JOh p wr;cases hp : ptB p with
   | false =>
    rw [hp] at hP
    go_wp2_with (go_at_call 233; refine hP.mono ?_; rintro e W1 ⟨rfl, rfl⟩)
    go_wp2
    go_ret2
    rw [← hpp] at hp;have e := JSF hlt hp;refine ⟨?_, hbw⟩;unfold JBG;rw [e];rfl
   | true =>
    rw [hp] at hP;have hpr := JSG hp;have hel := JSE (l.take k);have htl : (l.take k).length = k := sO
    go_wp2_with (first
     | (go_at_call 233; refine hP.mono ?_; rintro e W1 ⟨rfl, rfl⟩)
     | (go_at_call 234; refine (Any.Builder_WriteRune_k Tryz.JSw Tryz.JCJ w.heap.size w.heap.size _ _ oM oM _ hI (by rw [Lib.byteCells_length]; omega) hsz).mono ?_; rintro e W2 ⟨rfl, hI2, b2, k2⟩))
    go_wp2
    go_roundw
    case rel =>
     refine ⟨k + 1, hlt, rfl, .inr ?_, hbw.trans b2, ?_⟩
     ·rw [JOi l hlt, Lib.byteCells_append, Lib.byteCells_encodeRune, hpp];exact hI2
     ·rw [← hpp] at hp;exact JOj hlt hall hp
    case measure =>
     simp [intOf]; omega
  ·have hkl : k = l.length := oM;subst hkl
   go_wp2_with (go_at_call 235; refine (Any.Builder_String_any_k Tryz.JSt Tryz.JCH w.heap.size w.heap.size (enL (l.take l.length)) _ hI hsz).mono ?_; rintro e W1 ⟨rfl, hI2, b2, k2⟩)
   go_wp2
   go_ret2
   rw [List.take_length] at *;refine ⟨?_, hbw.trans b2⟩;unfold JBG;rw [hall];rfl
theorem JOk (l : List Int) : flat (l.map (.int .i64)) = l.map (.int .i64) := by
 induction l with
 | nil => rfl
 | cons a r ih => rw [Va, U0, ih]; rfl
theorem JID {w : World} {b o : Nat} {v : Value} (h : w.cell? ⟨b, o + k, none⟩ = some v) : b < w.heap.size := by
 rcases Nat.lt_or_ge b w.heap.size with h' | h'
 ·exact h'
 ·simp [World.cell?, Array.getElem?_eq_none h'] at h
theorem JLk (l : List Int) : IntKind.i64.min ≤ (JBG l).2 ∧ (JBG l).2 ≤ IntKind.i64.max := by
 unfold JBG;split
 ·show IntKind.i64.min ≤ (0 : Int) ∧ (0 : Int) ≤ IntKind.i64.max;exact ⟨dC, dC⟩
 ·exact ⟨dC, dC⟩
theorem JSH : JSC := by
 intro l hl;refine JQ.JE6 (ds := [.list 1 (l.map (.int .i64))]) (JHu Tryz.func185 kR kR) ?_;intro A w vs hsz hv;obtain ⟨x, rfl⟩ := JBr hsz;have hx := hv 0 _ x rfl rfl;have hlen := JIB l;have key : ∃ (a : Option Addr) (cap : Nat), x = .slice a l.length cap ∧ ∀ k, k < l.length → ∃ b o, a = some ⟨b, o, none⟩ ∧ b < w.heap.size ∧ w.cell? ⟨b, o + k, none⟩ = some (.int .i64 (l.getD k 0)) := by
  generalize hq : l.map (Dat.int .i64) = q at hx;cases hx with
  | emp _ a cap =>
   have : l = [] := sX hq;subst this;exact ⟨a, cap, rfl, fun k hk => absurd hk sP⟩
  | list _ _ b o n cap vs hn hA hlc hc h1 hs1 hh hvl hvs =>
   subst hq;rw [Vc] at hn;subst hn;refine ⟨some ⟨b, o, none⟩, cap, rfl, fun k hk => ?_⟩;rw [JOk] at hvl hvs;rw [Vc] at hvl;have hk' : k < vs.length := oM;have e1 : vs[k]? = some vs[k] := Vl hk';have hcell := hh k _ e1;have hr := hvs k (.int .i64 (l.getD k 0)) vs[k] (by rw [Vo, Vl hk]; simp [List.getD, Vl hk]) e1;generalize vs[k] = v at *;cases hr;exact ⟨b, o, rfl, JID hcell, hcell⟩
 obtain ⟨a, cap, rfl, hr⟩ := key;refine (JLj a cap l w hl hr).mono ?_;rintro e w' ⟨rfl, hb⟩;exact ⟨_, rfl, hb, fun β H => Z8 (.str _ oM) (.int _ _ (JLk l))⟩
end Go.Proofs
namespace Av
open Go
theorem Xz {P : Program} (w : World) (dT sT ty elem : TypeId) (g o dLen dCap : Nat) (a : Addr) (sLen sCap n sz : Nat) (cur : Array Value) (t : TypeId) (cs : List Value)
  (hu : P.underlying dT = some (.slice elem)) (hs : (P.info? elem).map (·.size) = some sz)
  (hg : w.heap[g]? = some (.cells cur t (0, 0))) (hn : Nat.min sLen dLen = n) (hcl : cs.length = n * sz)
  (hsrc : ∀ j v, cs[j]? = some v → w.cell? (a.add j) = some v) (hfit : o + cs.length ≤ cur.size) (h1 : ∀ v ∈ cs, v.oneCell' = true) :
  (Builtin.copy_ #[dT, sT] ty #[.slice (some ⟨g, o, none⟩) dLen dCap, .slice (some a) sLen sCap]).run P w =
   .ok (goInt n) (w.setRow g (cur.toList.take o ++ cs ++ cur.toList.drop (o + cs.length)).toArray) := by
 have hl := run_loadCells_list (P := P) w a cs hsrc;have hst := run_storeCells_at P g o t cs 0 cur w hg (sX hfit) h1;cases hq : P.info? elem with
 | none => simp [hq] at hs
 | some i =>
  have hi : i.size = sz := by simpa [hq] using hs
  simp [Builtin.copy_, run_underlying hu, Builtin.lenOf, Builtin.firstCells, Go.sizeOf, Go.typeInfo, hq, hi, hn, ← hcl, hl, hst]
end Av
namespace Go.Proofs
open Go Av Go.RowKit Go.Shelf
variable {w W : World} {x : Go.Obj}
theorem JCn {P : Program} (w : World) (tS tR e : TypeId) (ht : P.underlying tS = some (.slice e)) (size : Nat) (hz : ∀ w, (Go.sizeOf e).run P w = .ok size w)
  (a b : Addr) (la ca lb cb : Nat) (hne : a.block ≠ b.block) (tA tB : TypeId) (kA kB : Nat)
  (hsa : w.shape? a.block = some (tA, kA)) (hsb : w.shape? b.block = some (tB, kB)) (hkA : kA ≠ 0)
  (hfb : w.frozen? b = false) (hfe : w.frozen? { block := b.block, off := kB } = false) :
  (Extern.SlicesOverlaps.overlaps #[tS, tS] #[tR] #[.slice (some a) la ca, .slice (some b) lb cb]).run P w = .ok (.bool false) w := by
 have hnb : (a.block != b.block) = true := sX hne;have hnb' : (a.block == b.block) = false := sX hne;change Sem.run P (α := Value) (do
  let some t := (#[tS, tS] : Array TypeId)[0]? | stuck "slices.overlaps: no parameter types"
  let .slice elem ← underlying t | stuck "slices.overlaps: slice type expected"
  let size ← sizeOf elem
  match (some a : Option Addr), (some b : Option Addr) with
  | some a, some b =>
   if la = 0 ∨ lb = 0 ∨ size = 0 then pure (Value.bool false)
   else if a.block != b.block && (← frozen a) && (← frozen b) then unsupported .addressObserved
   else do
    if a.block != b.block then do
     noView a; noView b
     if ← mayBeOne a b then return Value.bool ((← choose (.extern "sameAddr.stringBytes" 2)) == 1)
    pure (Value.bool (a.block == b.block && a.off < b.off + lb * size && b.off < a.off + la * size))
  | _, _ => pure (Value.bool false)) w = _
 by_cases h0 : la = 0 ∨ lb = 0 ∨ size = 0
 ·simp [run_underlying ht, hz, h0]
 ·cases kA with
  | zero => exact absurd rfl hkA
  | succ kA =>
   cases h1 : w.frozen? a <;> cases h2 : w.frozen? { block := a.block, off := kA + 1 } <;>
    simp [run_underlying ht, hz, h0, hnb, hnb', frozen, noView, viewAt, mayBeOne, stringish, shape, Sem.run, hsa, hsb, hfb, hfe, h1, h2]
theorem JEo {cur : Array Value} {g j o : Nat} {cs : List Value} {v : Value} {t : TypeId} (hg : w.heap[g]? = some (.cells cur t (0, 0))) (h : (cur.toList.drop o)[j]? = some v) : w.cell? ⟨g, o + j, none⟩ = some v := by
 rw [List.getElem?_drop] at h;simp [World.cell?, hg] at h ⊢;exact h
theorem YD {α : Type} {l : List α} {m j : Nat} {v : α} (h : (l.take m)[j]? = some v) : l[j]? = some v := by
 rw [List.getElem?_take] at h;split at h
 ·exact h
 ·cases h
theorem JKw {α : Type} {l : List α} {v : α} (h : v ∈ l) : ∃ j : Nat, l[j]? = some v := List.getElem?_of_mem h
set_option maxHeartbeats 6400000 in
set_option maxRecDepth 1000000 in
theorem JOl (g n c i vb vo vc : Nat) (cur : Array Value) (t : TypeId) (ys : List Value) (w : World) (hi : i < n) (hroom : n + 1 ≤ c) (hn63 : n ≤ 1000000000) (hg : w.heap[g]? = some (.cells cur t (0, 0))) (hcs : cur.size = c * 7) (hvb : vb ≠ g)
  (hyl : ys.length = 7) (hys : ∀ j v, ys[j]? = some v → w.cell? ⟨vb, vo + j, none⟩ = some v) (h1v : ∀ v ∈ ys, v.oneCell' = true) (h1c : ∀ j v, j < n * 7 → cur[j]? = some v → v.oneCell' = true)
  (tA : TypeId) (kA : Nat) (hsa : w.shape? vb = some (tA, kA)) (hkA : kA ≠ 0) :
  Calls Tryz.prog 156 #[.slice (some ⟨g, 0, none⟩) n c, .int .i64 i, .slice (some ⟨vb, vo, none⟩) 1 vc] w fun e w' =>
   e = .returned (.slice (some ⟨g, 0, none⟩) (n + 1) c) ∧ w' = w.drew.setRow g (cur.toList.take (i * 7) ++ ys ++ ((cur.toList.drop (i * 7)).take ((n - i) * 7) ++ cur.toList.drop ((n + 1) * 7))).toArray := by
 have hz2 : ¬ ((i : Int) = (n : Int)) := oM;have hw1 : IntKind.i64.wrap ((i : Int) + 1) = (i : Int) + 1 := by rw [IntKind.wrap_i64]; omega
 have hw2 : IntKind.i64.wrap ((n : Int) + 1) = (n : Int) + 1 := by rw [IntKind.wrap_i64]; omega
 have hb1 : (0 : Int) ≤ (i : Int) + 1 := oM;have hin : i ≤ n := oM;have htn : ((i : Int) + 1).toNat = i + 1 := oM;have hb2 : ¬ (c = i + 1) := oM;have hb3 : (i : Int) ≤ (n : Int) + 1 := oM;have hb4 : ¬ (c = i) := oM;have hsb : w.shape? g = some (t, c * 7) := by simp [World.shape?, hg, hcs]
 have hfr : ∀ j, w.frozen? ⟨g, j, none⟩ = false := fun j => by simp [World.frozen?, hg]
 have hsz : (Tryz.prog.info? 77).map (·.size) = some 7 := kR;have hov : ∀ lb cb, (callFunc 224 #[.slice (some ⟨vb, vo, none⟩) 1 vc, .slice (some ⟨g, (i + 1) * 7, none⟩) lb cb]).run Tryz.prog w = .ok (.value (.bool false)) w := fun lb cb => by
  rw [run_callFunc_extern Tryz.func224 kR kR kR (e := Extern.SlicesOverlaps.overlaps #[26, 26] #[4]) kR,
   JCn w 26 4 77 Tryz.underlying26 7 Tryz.sizeOf77 ⟨vb, vo, none⟩ ⟨g, (i + 1) * 7, none⟩ 1 vc lb cb hvb tA t kA (c * 7) hsa hsb hkA (hfr _) (hfr _)]
  rfl
 obtain ⟨cs, hcs0⟩ : ∃ cs, cs = (cur.toList.drop (i * 7)).take ((n - i) * 7) := ⟨_, rfl⟩;have hcl : cs.length = (n - i) * 7 := by rw [hcs0, List.length_take, List.length_drop, Array.length_toList, hcs]; omega
 obtain ⟨R1, hR1⟩ : ∃ R1 : List Value, R1 = cur.toList.take ((i + 1) * 7) ++ cs ++ cur.toList.drop ((i + 1) * 7 + cs.length) := ⟨_, rfl⟩;have hcp1 : ∀ ty dl dc sl sc, Nat.min sl dl = n - i → (Builtin.copy_ #[26, 26] ty #[.slice (some ⟨g, (i + 1) * 7, none⟩) dl dc, .slice (some ⟨g, i * 7, none⟩) sl sc]).run Tryz.prog w.drew = .ok (goInt ((n - i : Nat) : Int)) (w.drew.setRow g R1.toArray) := fun ty dl dc sl sc hm => by
  rw [hR1];refine Xz w.drew 26 26 ty 77 g ((i + 1) * 7) dl dc ⟨g, i * 7, none⟩ sl sc (n - i) 7 cur t cs Tryz.underlying26 hsz hg hm hcl ?_ (by rw [hcl, hcs]; omega) ?_
  ·intro j v hj;rw [hcs0] at hj;rw [Addr.add_lit];exact JEo (cs := []) hg (YD hj)
  ·intro v hv;obtain ⟨j, hj⟩ := JKw hv;have hjl := (VB.1 hj).1;rw [hcs0] at hj;have h2 := YD hj;rw [List.getElem?_drop] at h2;exact h1c (i * 7 + j) v (by rw [hcl] at hjl; omega) (sX h2)
 have hR1l : R1.length = c * 7 := by
  rw [hR1];simp only [Vg, List.length_take, List.length_drop, Array.length_toList, hcs, hcl];omega
 have hR : R1.take (i * 7) ++ ys ++ R1.drop (i * 7 + ys.length) = cur.toList.take (i * 7) ++ ys ++ (cs ++ cur.toList.drop ((n + 1) * 7)) := by
  have e1 : R1.take (i * 7) = cur.toList.take (i * 7) := by
   rw [hR1, List.append_assoc, List.take_append_of_le_length (by rw [List.length_take, Array.length_toList, hcs]; omega), List.take_take];congr 1;omega
  have e2 : R1.drop (i * 7 + ys.length) = cs ++ cur.toList.drop ((n + 1) * 7) := by
   have e3 : (cur.toList.take ((i + 1) * 7)).length = i * 7 + ys.length := by rw [List.length_take, Array.length_toList, hcs, hyl]; omega
   rw [hR1, List.append_assoc, ← e3, List.drop_left, hcl];congr 2;omega
  rw [e1, e2]
 have hcp2 : ∀ ty dl dc, 1 ≤ dl → (Builtin.copy_ #[26, 26] ty #[.slice (some ⟨g, i * 7, none⟩) dl dc, .slice (some ⟨vb, vo, none⟩) 1 vc]).run Tryz.prog (w.drew.setRow g R1.toArray) = .ok (goInt ((1 : Nat) : Int)) (w.drew.setRow g (cur.toList.take (i * 7) ++ ys ++ (cs ++ cur.toList.drop ((n + 1) * 7))).toArray) := fun ty dl dc hd => by
  have h := Xz (w.drew.setRow g R1.toArray) 26 26 ty 77 g (i * 7) dl dc ⟨vb, vo, none⟩ 1 vc 1 7 R1.toArray t ys Tryz.underlying26 hsz (setRow_heap w.drew g cur _ t (0, 0) hg) (by simp only [Nat.min_def]; split <;> omega) oM (fun j v hj => by rw [Addr.add_lit, cell_setRow_other _ _ _ _ hvb]; exact hys j v hj) (by simp only [List.size_toArray]; omega) h1v;rw [setRow_setRow, List.toList_toArray, hR] at h;exact h
 rw [← hcs0];have mixed : Tryz.prog.follows Departure.mixedOrders = true := kR;have hcp3 := fun ty dc sc => hcp1 ty (n - i) dc (n + 1 - i) sc (by simp only [Nat.min_def]; split <;> omega)
 have hcp4 := fun ty dc => hcp2 ty (n + 1 - i) dc oM
 clear hR hR1l hcp1 hcp2 hR1 hcl hcs0
 go_enter Tryz.func156, Tryz.ntmps156
 go_wp2_with (simp only [hov])
 go_region_law_o (refine step_copy_runI rfl _ _ 26 26 rfl _ _ (by simp [Act.eval, Act.put]) (by simp [Act.eval, Act.put]) (hcp3 _ _ _) ?_)
 go_wp2_with (at_builtin; refine wpList_copy_runI _ rfl _ _ 26 26 rfl _ _ rfl rfl (hcp4 _ _) ?_)
 go_ret
 exact ⟨rfl, by simp only [List.append_assoc]⟩
theorem JDB {C C' : Array Value} {t : TypeId} (h : W.heap = w.heap.push (.cells C t)) : (W.setRow w.heap.size C').heap = w.heap.push (.cells C' t) := by
 have hm : ∀ (a : Array Go.Obj) (x : Go.Obj) (f : Go.Obj → Go.Obj), (a.push x).modify a.size f = a.push (f x) := by
  intro a x f;apply Array.ext
  ·simp
  ·intro i h1 h2;simp only [Array.getElem_modify, Array.getElem_push];by_cases h : a.size = i
   ·subst h;simp
   ·have hi : i < a.size := by simp at h1; omega
    simp [h, hi]
 unfold World.setRow;simp only [h];rw [hm]
theorem JGp (h : W.heap = w.heap.push x) : W.heap[w.heap.size]? = some x := by rw [h]; simp
theorem JOm (h : W.heap = w.heap.push x) {b : Nat} (hb : b < w.heap.size) : W.heap[b]? = w.heap[b]? := by
 rw [h, Array.getElem?_push, if_neg oM]
theorem JIE (h : W.heap = w.heap.push x) {a : Addr} (hb : a.block < w.heap.size) : W.cell? a = w.cell? a := cell_of_heap (JOm h hb)
abbrev zF : Value := .agg #[.string ⟨#[]⟩, .int .i64 0, .int .i64 0, .int .i64 0, .string ⟨#[]⟩, .slice none 0 0, .slice none 0 0]
theorem info77 : (Tryz.prog.info? 77).map (fun i => (i.zero, i.size, i.bytes)) = some (some zF, 7, 104) := kR
set_option maxHeartbeats 6400000 in
set_option maxRecDepth 1000000 in
theorem JOn (g n c i vb vo vc : Nat) (cur : Array Value) (t : TypeId) (ys : List Value) (w : World) (hi : i < n) (hnc : n ≤ c) (hroom : c < n + 1) (hbig : n ≤ 1000000000) (hg : w.heap[g]? = some (.cells cur t (0, 0))) (hcs : cur.size = c * 7) (hvw : vb < w.heap.size)
  (hyl : ys.length = 7) (hys : ∀ j v, ys[j]? = some v → w.cell? ⟨vb, vo + j, none⟩ = some v) (h1v : ∀ v ∈ ys, v.oneCell' = true) (h1c : ∀ j v, j < n * 7 → cur[j]? = some v → v.oneCell' = true) :
  Calls Tryz.prog 156 #[.slice (some ⟨g, 0, none⟩) n c, .int .i64 i, .slice (some ⟨vb, vo, none⟩) 1 vc] w fun e w' =>
   ∃ G FIN, e = .returned (.slice (some ⟨w.heap.size, 0, none⟩) (n + 1) G) ∧ n + 1 ≤ G ∧ w'.heap = w.heap.push (.cells (cur.toList.take (i * 7) ++ ys ++ ((cur.toList.drop (i * 7)).take ((n - i) * 7) ++ FIN)).toArray 77) ∧ FIN.length = (G - (n + 1)) * 7 ∧
    w'.os = w.os ∧ w'.tape = w.tape ∧ w'.output = w.output := by
 obtain ⟨i0, hi0, hz0, hzs, hzb⟩ := info_parts info77;have hz2 : ¬ ((i : Int) = (n : Int)) := oM;have hz3 : (c : Int) < (n : Int) + 1 := oM;have hsz : (Tryz.prog.info? 77).map (·.size) = some 7 := kR;have hbw : g < w.heap.size := by
  rcases Nat.lt_or_ge g w.heap.size with h' | h'
  ·exact h'
  ·simp [Array.getElem?_eq_none h'] at hg
 have hkk : (n : Int) + 1 - (i : Int) = ((n + 1 - i : Nat) : Int) := oM;have hik : i + (n + 1 - i) = n + 1 := oM;obtain ⟨hd, hhd⟩ : ∃ hd, hd = cur.toList.take (i * 7) := ⟨_, rfl⟩;have hhl : hd.length = i * 7 := by rw [hhd, List.length_take, Array.length_toList, hcs]; omega
 have hold : (Builtin.firstCells i0.size i (.slice (some ⟨g, 0, none⟩) i c)).run Tryz.prog w.drew = .ok hd.toArray w.drew := by
  rw [hzs];exact run_firstCells_some w.drew 7 i ⟨g, 0, none⟩ i c hd hhl (fun j v hj => by
   rw [Addr.add_lit];rw [hhd] at hj;have := YD hj;exact JEo (w := w.drew) (o := 0) (cs := []) hg (sX this))
 obtain ⟨G, hG⟩ : ∃ G, G = grownCap w (n + 1) c 77 := ⟨_, rfl⟩;have hrz : ∀ ty, (Builtin.append_ #[26, 3] ty #[.slice (some ⟨g, 0, none⟩) i c, .int .i64 ((n : Int) + 1 - (i : Int))]).run Tryz.prog w =
   .ok (.slice (some ⟨w.heap.size, 0, none⟩) (n + 1) G) (w.drew.alloc (.cells (hd.toArray ++ Builtin.zeroCells zF.cells (n + 1 - i) ++ Builtin.zeroCells zF.cells (G - (n + 1))) 77)) := fun ty => by
  have h := Lib.run_append_grow_zeros w 26 3 ty 77 i0 _ .i64 .i64 Tryz.underlying26 Tryz.underlying3 hi0 hz0 (some ⟨g, 0, none⟩) i c hd hold (n + 1 - i) oM oM oM oM (by rw [hzb]; omega) (by rw [hzb, hik]; exact growslice_fits hroom oM);rw [hik] at h;rw [hkk, hG];exact h
 have hGn : n + 1 ≤ G := by rw [hG]; exact grownCap_ge w _ _ _
 have hG63 : G ≤ 9223372036854775807 := by
  have := grownCap_le_maxLen w (n + 1) c 77 (by unfold maxLen; omega);rw [← hG] at this;unfold maxLen at this;omega
 obtain ⟨ROW, hROW⟩ : ∃ ROW : Array Value, ROW = hd.toArray ++ Builtin.zeroCells zF.cells (n + 1 - i) ++ Builtin.zeroCells zF.cells (G - (n + 1)) := ⟨_, rfl⟩;rw [← hROW] at hrz;have hRl : ROW.size = G * 7 := by
  have hz7 : zF.cells.size = 7 := rfl;rw [hROW];simp only [Array.size_append, List.size_toArray, size_zeroCells, hz7, hhl];omega
 obtain ⟨cs, hcs0⟩ : ∃ cs, cs = (cur.toList.drop (i * 7)).take ((n - i) * 7) := ⟨_, rfl⟩;have hcl : cs.length = (n - i) * 7 := by rw [hcs0, List.length_take, List.length_drop, Array.length_toList, hcs]; omega
 have hHD : ROW.toList.take (i * 7) = hd := by
  rw [hROW, Array.toList_append, Array.toList_append, List.append_assoc, List.toList_toArray, ← hhl, List.take_left]
 obtain ⟨R1, hR1⟩ : ∃ R1 : List Value, R1 = hd ++ ys ++ ROW.toList.drop (i * 7 + ys.length) := ⟨_, rfl⟩;have hR1l : R1.length = G * 7 := by
  rw [hR1];simp only [Vg, List.length_drop, Array.length_toList, hRl, hhl, hyl];omega
 obtain ⟨FIN, hFIN⟩ : ∃ FIN, FIN = R1.drop ((n + 1) * 7) := ⟨_, rfl⟩;have hFl : FIN.length = (G - (n + 1)) * 7 := by rw [hFIN, List.length_drop, hR1l]; omega
 have hR2 : R1.take ((i + 1) * 7) ++ cs ++ R1.drop ((i + 1) * 7 + cs.length) = hd ++ ys ++ (cs ++ FIN) := by
  have e1 : R1.take ((i + 1) * 7) = hd ++ ys := by
   have : (hd ++ ys).length = (i + 1) * 7 := by rw [Vg, hhl, hyl]; omega
   rw [hR1, ← this, List.take_left]
  rw [e1, List.append_assoc, hFIN, hcl];congr 3;omega
 have hcpA : ∀ (W : World), W.heap = w.heap.push (.cells ROW 77) → ∀ ty dc, (Builtin.copy_ #[26, 26] ty #[.slice (some ⟨w.heap.size, i * 7, none⟩) (n + 1 - i) dc, .slice (some ⟨vb, vo, none⟩) 1 vc]).run Tryz.prog W = .ok (goInt ((1 : Nat) : Int)) (W.setRow w.heap.size R1.toArray) := fun W hW ty dc => by
  have h := Xz W 26 26 ty 77 w.heap.size (i * 7) (n + 1 - i) dc ⟨vb, vo, none⟩ 1 vc 1 7 ROW 77 ys Tryz.underlying26 hsz (JGp hW) (by simp only [Nat.min_def]; split <;> omega) oM
   (fun j v hj => by rw [Addr.add_lit, JIE hW hvw]; exact hys j v hj) (by rw [hyl, hRl]; omega) h1v
  rw [hHD, ← hR1] at h;exact h
 have hcpB : ∀ (W : World), W.heap = w.heap.push (.cells R1.toArray 77) → ∀ ty dc sc, (Builtin.copy_ #[26, 26] ty #[.slice (some ⟨w.heap.size, (i + 1) * 7, none⟩) (n - i) dc, .slice (some ⟨g, i * 7, none⟩) (n - i) sc]).run Tryz.prog W = .ok (goInt ((n - i : Nat) : Int)) (W.setRow w.heap.size (hd ++ ys ++ (cs ++ FIN)).toArray) := fun W hW ty dc sc => by
  have h := Xz W 26 26 ty 77 w.heap.size ((i + 1) * 7) (n - i) dc ⟨g, i * 7, none⟩ (n - i) sc (n - i) 7 R1.toArray 77 cs Tryz.underlying26 hsz (JGp hW) (by simp only [Nat.min_def]; split <;> omega) hcl
   (fun j v hj => by
    rw [Addr.add_lit, JIE hW hbw];rw [hcs0] at hj;exact JEo (cs := []) hg (YD hj)) (by simp only [List.size_toArray, hR1l, hcl]; omega)
   (fun v hv => by
    obtain ⟨j, hj⟩ := JKw hv;have hjl := (VB.1 hj).1;rw [hcs0] at hj;have h2 := YD hj;rw [List.getElem?_drop] at h2;exact h1c (i * 7 + j) v (by rw [hcl] at hjl; omega) (sX h2))
  rw [List.toList_toArray, hR2] at h;exact h
 have hw1 : IntKind.i64.wrap ((i : Int) + 1) = (i : Int) + 1 := by rw [IntKind.wrap_i64]; omega
 have hw2 : IntKind.i64.wrap ((n : Int) + 1) = (n : Int) + 1 := by rw [IntKind.wrap_i64]; omega
 have hb1 : (0 : Int) ≤ (i : Int) + 1 := oM;have hin : i ≤ n := oM;have htn : ((i : Int) + 1).toNat = i + 1 := oM;have hb3 : (i : Int) ≤ (n : Int) := oM;have hGi : ¬ (G = i) := oM;have hGim : ¬ (G = i + 1) := oM;have hci : ¬ (c = i) := oM;rw [← hcs0, ← hhd];have mixed : Tryz.prog.follows Departure.mixedOrders = true := kR;have hN0 : (w.alloc (.cells ROW 77)).drew.heap = w.heap.push (.cells ROW 77) := rfl;have hN1 : ((w.alloc (.cells ROW 77)).drew.setRow w.heap.size R1.toArray).drew.heap = w.heap.push (.cells R1.toArray 77) := JDB hN0;have hN2 : ∀ C' : Array Value, (((w.alloc (.cells ROW 77)).drew.setRow w.heap.size R1.toArray).drew.setRow w.heap.size C').heap = w.heap.push (.cells C' 77) := fun C' => JDB hN1
 generalize hFN : hd ++ ys ++ (cs ++ FIN) = FN at hcpB;clear hkk hik hold hROW hG hRl hR1 hR1l hFIN hR2 hHD hhd hcs0 hhl hcl h1c hys
 go_enter Tryz.func156, Tryz.ntmps156
 go_wp2_with (first
  | (at_builtin; refine Lib.wpList_append_run _ rfl _ _ _ _ rfl _ _ rfl rfl _ _ (hrz _) ?_)
  | (at_builtin; refine wpList_copy_runI _ rfl _ _ 26 26 rfl _ _ rfl rfl (hcpA _ hN0 _ _) ?_))
 go_region_law_o (refine step_copy_runI rfl _ _ 26 26 rfl _ _ (by simp [Act.eval, Act.put]) (by simp [Act.eval, Act.put]) (hcpB _ hN1 _ _ _) ?_)
 go_wp2
 go_ret
 refine ⟨G, FIN, rfl, hGn, ?_, hFl, rfl, rfl, rfl⟩;rw [hFN];exact hN2 _
end Go.Proofs
namespace Go.Proofs
open Go Av Go.RowKit Go.Shelf
variable {A : Nat → Prop} {w : World} {F : List Dat} {V : List Value}
def Pt (A : Nat → Prop) (w : World) (F : List Dat) (V : List Value) : Prop := F.length = V.length ∧ ∀ (j : Nat) c v, F[j]? = some c → V[j]? = some v → Rep A w c v ∧ v.oneCell' = true
theorem Pt.app {F' : List Dat} {V' : List Value} (h : Pt A w F V) (h' : Pt A w F' V') : Pt A w (F ++ F') (V ++ V') := by
 refine ⟨by rw [Vg, Vg, h.1, h'.1], fun j c v hc hv => ?_⟩;by_cases hj : j < F.length
 ·rw [Vz hj] at hc;rw [Vz (by rw [← h.1]; exact hj)] at hv;exact h.2 j c v hc hv
 ·rw [Vy oM] at hc;rw [Vy (by rw [← h.1]; omega), ← h.1] at hv;exact h'.2 _ c v hc hv
theorem Pt.take (h : Pt A w F V) (k : Nat) : Pt A w (F.take k) (V.take k) :=
 ⟨by simp [h.1], fun j c v hc hv => h.2 j c v (YD hc) (YD hv)⟩
theorem Pt.drop (h : Pt A w F V) (k : Nat) : Pt A w (F.drop k) (V.drop k) :=
 ⟨by simp [h.1], fun j c v hc hv => by
  rw [List.getElem?_drop] at hc hv;exact h.2 _ c v hc hv⟩
theorem Pt.one {R : List Value} (h : Pt A w F V) (j : Nat) (v : Value) (hj : j < F.length) (hv : ((V ++ R).toArray)[j]? = some v) : v.oneCell' = true := by
 rw [List.getElem?_toArray, Vz (by rw [← h.1]; exact hj)] at hv;exact (h.2 j _ v (Vl hj) hv).2
theorem Pt.rep {R : List Value} (h : Pt A w F V) (j : Nat) (c : Dat) (v : Value) (hc : F[j]? = some c) (hv : ((V ++ R).toArray)[j]? = some v) : Rep A w c v := by
 have hj : j < F.length := (VB.1 hc).1;rw [List.getElem?_toArray, Vz (by rw [← h.1]; exact hj)] at hv;exact (h.2 j c v hc hv).1
theorem JOo {xs : List Dat} {y : Dat} {k : Nat} (hs : ∀ x ∈ xs, x.cells.length = 7) (hy : y.cells.length = 7) : ∀ x ∈ xs.take k ++ y :: xs.drop k, x.cells.length = 7 := by
 intro x hx;rcases List.mem_append.1 hx with h | h
 ·exact hs x (List.mem_of_mem_take h)
 ·rcases VA.1 h with rfl | h
  ·exact hy
  ·exact hs x (List.mem_of_mem_drop h)
theorem JOp {b o : Nat} {v : Value} (h : w.cell? ⟨b, o, none⟩ = some v) : ∃ t k, w.shape? b = some (t, k) ∧ k ≠ 0 ∧ b < w.heap.size := by
 have hb : b < w.heap.size := JID (o := o) (k := 0) h;unfold World.cell? at h;unfold World.shape?;cases e : w.heap[b]? with
 | none => simp [e] at h
 | some x =>
  cases x with
  | cells c t f =>
   simp only [e] at h;refine ⟨t, c.size, rfl, ?_, hb⟩;have h' : c[o]? = some v := sX h;have := (Array.getElem?_eq_some_iff.1 h').1;omega
  | _ => simp [e] at h
theorem ins_ok (i v k : Nat) (xs : List Dat) (y : Dat) (hk : k < xs.length) (hx : xs.length ≤ 1000000000) (hy : y.cells.length = 7) :
  CT (.fn 156) [.ms i v, .d (.int .i64 k), .d (.list 7 [y])] [(i, some (.row v 7 xs))] (.ms i (v + 1)) [(i, .row (v + 1) 7 (xs.take k ++ y :: xs.drop k))] := by
 intro β A w H vs hT hc hvs;have hi : H i = some (.row v 7 xs) := hT _ (Vh);obtain ⟨x1, x2, x3, rfl⟩ : ∃ x y z, vs = #[x, y, z] := by
  have h3 : 3 = vs.size := sX hvs.1;refine ⟨vs[0], vs[1], vs[2], ?_⟩;apply Array.ext
  ·simp [← h3]
  ·intro i h1 h2;have : i = 0 ∨ i = 1 ∨ i = 2 := oM;rcases this with rfl | rfl | rfl <;> rfl
 have h1 := hvs.2 0 _ x1 rfl rfl;have h2 := (hvs.2 1 _ x2 rfl rfl).JX;have h3 := (hvs.2 2 _ x3 rfl rfl).JX;cases h2;have hls : (xs.take k ++ y :: xs.drop k).length = xs.length + 1 := sO;obtain ⟨_, hs, hbnd, hob⟩ := hc.objs i _ hi;have hsm := JOo (k := k) hs hy;rcases hob with ⟨_, rfl⟩ | ⟨b, C, T, cap, hb, hh, hC, hle, hone, hrep⟩
 ·simp at hk
 have hfl : (flat xs).length = xs.length * 7 := JO hs;have hP : Pt A w (flat xs) (C.toList.take (xs.length * 7)) := by
  have hCl : C.toList.length = cap * 7 := sX hC;refine ⟨by rw [hfl, List.length_take, hCl]; omega, fun j c u hcj huj => ?_⟩;have hj : j < (flat xs).length := (VB.1 hcj).1;have hu := YD huj;rw [Array.getElem?_toList] at hu;exact ⟨hrep j c u hcj hu, hone j u hj hu⟩
 have hP1 := hP.take (k * 7);have hP3 := hP.drop (k * 7);rw [List.take_take, show min (k * 7) (xs.length * 7) = k * 7 by omega] at hP1;rw [List.drop_take, ← Nat.sub_mul] at hP3;have hu1 : x1 = .slice (some ⟨b, 0, none⟩) xs.length cap := by
  cases h1 with
  | ms _ _ _ hu h0 g1 g2 =>
   rcases (g1 v 7 xs hi).2 rfl with ⟨hn, _⟩ | ⟨b', C', T', fz, cap', hb', hh', hC', hn', rfl⟩
   ·rw [hb] at hn; cases hn
   ·rw [hb] at hb';cases hb';rw [hh] at hh';cases hh';have : cap' = cap := oM;rw [this]
 subst hu1;cases h3 with
 | list _ _ vb vo n cap0 vs hn hA hlc hcc hv1 hs1 hhv hvl hvv =>
  have hn1 : n = 1 := hn;subst hn1;have hfy : flat [y] = y.cells := by simp [flat]
  rw [hfy] at hvl hvv;have hyl : vs.length = 7 := oM;have hP2 : Pt A w y.cells vs := ⟨oM, fun j c u hcj huj => ⟨hvv j c u hcj huj, hv1 u (List.mem_of_getElem? huj)⟩⟩;have hPA := (hP1.app hP2).app hP3;have hfe : flat (xs.take k ++ y :: xs.drop k) = (flat xs).take (k * 7) ++ y.cells ++ (flat xs).drop (k * 7) := by
   rw [X3, U0, Y2 k hs, Y1 k hs, List.append_assoc]
  rw [← hfe] at hPA;obtain ⟨u0, hu0⟩ : ∃ u, vs[0]? = some u := ⟨vs[0], Vl oM⟩;obtain ⟨tA, kA, hsa, hkA, hvb⟩ := JOp (hhv 0 u0 hu0);have hne : vb ≠ b := fun e => hc.sep i _ b hi rfl hb (e ▸ hA)
  have hone' : ∀ j u, j < xs.length * 7 → C[j]? = some u → u.oneCell' = true := fun j u hj hu => hone j u oM hu
  have hhas := JHu (f := 156) Tryz.func156 kR kR;by_cases hroom : xs.length + 1 ≤ cap
  ·refine .inl ⟨hhas, (JOl b xs.length cap k vb vo cap0 C T vs w hk hroom hx hh hC hne hyl hhv hv1 hone' tA kA hsa hkA).mono ?_⟩;rintro e w' ⟨rfl, rfl⟩;have hw1 := Stp.draw hc (w₁ := w.drew) rfl rfl rfl rfl;have hP' : Pt A w.drew (flat (xs.take k ++ y :: xs.drop k)) (C.toList.take (k * 7) ++ vs ++ (C.toList.drop (k * 7)).take ((xs.length - k) * 7)) :=
    ⟨hPA.1, fun j c u h1 h2 => ⟨(hPA.2 j c u h1 h2).1.mono (fun _ _ => rfl) (fun _ h => h), (hPA.2 j c u h1 h2).2⟩⟩
   rw [← List.append_assoc];have hsz : ((C.toList.take (k * 7) ++ vs ++ (C.toList.drop (k * 7)).take ((xs.length - k) * 7)) ++ C.toList.drop ((xs.length + 1) * 7)).toArray.size = C.size := by
    have hCl : C.toList.length = C.size := sP;rw [List.size_toArray, Vg, ← hP'.1, JO hsm, hls, List.length_drop, hCl, hC];omega
   have hst := Stp.JJv hw1.core hi hb (by exact hh) hC hsz (Nat.le_succ v) (fun h => by omega) hsm oM oM (fun j u hj hu => hP'.one j u hj hu) (fun j c u h1 h2 => hP'.rep j c u h1 h2);refine ⟨_, rfl, β, A, hw1.trans hst, ?_⟩;refine .ms _ _ _ rfl (by simp [JD, upd]) ?_ (by simp [JD, upd]);intro v3 sz3 xs3 h3;simp only [JD, upd, if_true, Vd, Obj.row.injEq] at h3;obtain ⟨rfl, rfl, rfl⟩ := h3;exact ⟨Nat.le_refl _, fun _ => .inr ⟨b, _, T, (0, 0), cap, hb, setRow_heap w.drew b C _ T (0, 0) hh, by rw [hsz, hC], oM, by rw [hls]⟩⟩
  ·refine .inl ⟨hhas, (JOn b xs.length cap k vb vo cap0 C T vs w hk hle oM hx hh hC hvb hyl hhv hv1 hone').mono ?_⟩;rintro e w' ⟨G, FIN, rfl, hG, hheap, hFl, hos, htp, hout⟩;rw [← List.append_assoc] at hheap;have hsz : ((C.toList.take (k * 7) ++ vs ++ (C.toList.drop (k * 7)).take ((xs.length - k) * 7)) ++ FIN).toArray.size = G * 7 := by
    rw [List.size_toArray, Vg, ← hPA.1, JO hsm, hls, hFl];omega
   have hst := Stp.JQD hc (j := i) (ver' := v + 1) (.inr ⟨v, 7, xs, hi, Nat.lt_succ_self v⟩) (w1 := w) rfl rfl rfl rfl oM hsm oM oM hsz (fun j u hj hu => hPA.one j u hj hu) (fun j c u h1 h2 => hPA.rep j c u h1 h2) (e := 77);have hst2 := hst.trans (Stp.draw hst.core (w₁ := w') (by rw [hheap]; rfl) hos htp hout);refine ⟨_, rfl, _, A, hst2, ?_⟩;refine .ms _ _ _ rfl (by simp [JD, upd]) ?_ (by simp [JD, upd]);intro v3 sz3 xs3 h3;simp only [JD, upd, if_true, Vd, Obj.row.injEq] at h3;obtain ⟨rfl, rfl, rfl⟩ := h3;exact ⟨Nat.le_refl _, fun _ => .inr ⟨w.heap.size, _, 77, (0, 0), G, JR _ _ _, JGp hheap, hsz, oM, by rw [hls]⟩⟩
end Go.Proofs
namespace Go.Proofs
open Go Av
open Av.Y
def ir195 : Ic := q (R (ox 1 0<|oN 2 vG<|N) [0])<|q (R (of 6 1 3<|oL 7 7 6<|cl 8 136 [t 7]<|of 9 1 3<|oS 7 9 8<|N) [6,7,8,9])<|q (R (of 10 1 10<|ol 11 10<|oh 12 11<|oo 13 (.mks 6 [.int .i64 0,.int .i64 0,.int .i64 0,.str [],.nil 6,.nil 7] (i 0) (t 12))<|om 3 13<|N) [10,11,12,13])<|q (q (R (of 14 1 10<|ol 15 14<|oh 16 15<|oz 17 0<|N) [14])<|D (.block 0<|.loop (q (.reg (ot 18 .lss 17 16<|N))<|q (D (I 18 S (E 0)) [18])<|q (D (.block 1<|q (R (oa true 19 6 15 17<|oL 20 6 19<|oN 5 v6<|oS 6 5 20<|N) [19,20])<|R (om 21 3<|oL 22 6 5<|cl 23 55 [t 22]<|oo 24 (.bls 6 [t 23])<|oo 25 (.app 6 (t 21) (t 24))<|om 3 25<|N) [5,21,22,23,24,25]) [])<|R (oi 26 .add 17 1<|om 17 26<|N) [26])) [15,16,17,18,5])<|q (R (om 27 3<|of 28 1 10<|os 28 27<|N) [3,27,28])<|q (R (oL 29 11 1<|oS 11 2 29<|N) [1,29])<|.ret
theorem ok195 : FT 195 30 ir195 [.cell 2 (some 11)] := .o Tryz.func195
def ir136 : Ic := q (R (ox 1 0<|oN 2 vT<|N) [0])<|q (R (of 9 1 5<|ol 10 9<|oh 11 10<|oo 12 (.mks 7 [.int .i64 0,.int .i64 0,.int .i64 0,.int .i64 0,.nil 1,.nil 7,.nil 11] (i 0) (t 11))<|om 3 12<|N) [9,10,11,12])<|q (q (R (of 13 1 5<|ol 14 13<|oh 15 14<|oz 16 0<|N) [13])<|D (.block 0<|.loop (q (.reg (ot 17 .lss 16 15<|N))<|q (D (I 17 S (E 0)) [17])<|q (D (.block 1<|q (R (oa true 18 7 14 16<|oL 19 7 18<|oN 5 vT<|oS 7 5 19<|N) [18,19])<|R (om 20 3<|oL 21 7 5<|cl 22 136 [t 21]<|oo 23 (.bls 7 [t 22])<|oo 24 (.app 7 (t 20) (t 23))<|om 3 24<|N) [5,20,21,22,23,24]) [])<|R (oi 25 .add 16 1<|om 16 25<|N) [25])) [14,15,16,17,5])<|q (R (of 26 1 6<|ol 27 26<|oh 28 27<|oo 29 (.mks 11 [.int .i64 0,.str [],.int .i64 0,.int .i64 0,.int .i64 0,.int .i64 0,.int .i64 0,.nil 1,.nil 7,.nil 11,.nil 6] (i 0) (t 28))<|om 6 29<|N) [26,27,28,29])<|q (q (R (of 30 1 6<|ol 31 30<|oh 32 31<|oz 33 0<|N) [30])<|D (.block 2<|.loop (q (.reg (ot 34 .lss 33 32<|N))<|q (D (I 34 S (E 2)) [34])<|q (D (.block 3<|q (R (oa true 35 11 31 33<|oL 36 11 35<|oN 8 vG<|oS 11 8 36<|N) [35,36])<|R (om 37 6<|oL 38 11 8<|cl 39 195 [t 38]<|oo 40 (.bls 11 [t 39])<|oo 41 (.app 11 (t 37) (t 40))<|om 6 41<|N) [8,37,38,39,40,41]) [])<|R (oi 42 .add 33 1<|om 33 42<|N) [42])) [31,32,33,34,8])<|q (R (of 43 1 4<|ol 44 43<|cl 45 196 [t 44]<|om 46 3<|om 47 6<|of 48 1 4<|os 48 45<|of 49 1 5<|os 49 46<|of 50 1 6<|os 50 47<|N) [3,6,43,44,45,46,47,48,49,50])<|q (R (oL 51 7 1<|oS 7 2 51<|N) [1,51])<|.ret
theorem ok136 : FT 136 52 ir136 [.cell 2 (some 7)] := .o Tryz.func136
def ir4 : Ic := q (R (ox 3 0<|ox 4 1<|ox 5 2<|ow 6 false<|N) [0,1,2,6])<|q (q (R (cl 13 8 []<|og 14 13<|om 15 14<|.sc 15 false (oL 16 1 3<|cl 17 9 [t 16]<|og 18 17<|N) (t 18) 19 (om 20 19<|.sc 20 false (oL 21 6 4<|cl 22 10 [t 21]<|og 23 22<|N) (t 23) 24 (om 25 24<|.sc 25 false (oL 26 7 5<|cl 27 11 [t 26]<|og 28 27<|N) (t 28) 29 N))) [13,14,15,19,20,24,25])<|D (I 29 (q (R (cl 30 8 []<|om 6 30<|N) [3,4,5,29,30])<|.ret) S) [29])<|q (.reg (oN 7 [.nil 6]<|N))<|q (q (R (of 31 3 0<|ol 32 31<|oh 33 32<|oi 34 .sub 33 1<|om 8 34<|N) [31,32,33,34])<|D (.block 0<|.loop (q (q (R (om 35 8<|oi 36 .geq 35 0<|N) [35])<|D (I 36 S (E 0)) [36])<|q (D (.block 1<|D (.regd [(1,7)] (of 39 7 0<|ol 40 39<|of 41 3 0<|ol 42 41<|om 43 8<|oa true 44 6 42 43<|oL 45 6 44<|oo 46 (.bls 6 [t 45])<|oo 47 (.app 6 (t 40) (t 46))<|of 48 7 0<|os 48 47<|N)) [39,40,41,42,43,44,45,46,47,48]) [])<|R (om 37 8<|oi 38 .sub 37 1<|om 8 38<|N) [37,38])) [8,36])<|q (R (oL 50 1 3<|oL 51 6 4<|oL 52 7 5<|cl 53 12 [t 50,t 51,t 52]<|om 49 53<|oe 54 49 0<|oe 55 49 1<|oN 9 v6<|oS 6 9 54<|om 10 55<|N) [3,50,51,52,53,49,54,55])<|q (R (oL 57 1 7<|oL 58 6 4<|oL 59 7 5<|cl 60 12 [t 57,t 58,t 59]<|om 56 60<|oe 61 56 0<|oe 62 56 1<|oN 11 v6<|oS 6 11 61<|om 12 62<|N) [4,5,7,57,58,59,60,56,61,62])<|q (R (om 63 10<|oi 64 .eql 63 0<|om 65 12<|oi 66 .eql 65 0<|ot 67 .beq 64 66<|om 68 67<|.sc 68 true (oL 69 6 9<|oL 70 6 11<|cl 71 16 [t 69,t 70]<|N) (t 71) 72 (om 6 72<|N)) [9,10,11,12,63,64,65,66,67,68,72])<|.ret
theorem ok4 : FT 4 73 ir4 [.tmp 6] := .o Tryz.func4
end Go.Proofs
namespace Go.Proofs
open Go Av
theorem JCo : ∀ (x y : Str), strLt x y = decide (x < y)
 | x, [] => by
  have : ¬ x < ([] : Str) := List.not_lt_nil x;simp [strLt, Op.bytesLess, this]
 | [], b :: y => by
  have : ([] : Str) < b :: y := List.nil_lt_cons b y;simp [strLt, Op.bytesLess, this]
 | a :: x, b :: y => by
  have ih := JCo x y;simp only [strLt] at ih;simp only [strLt, Op.bytesLess, ih, List.cons_lt_cons_iff];by_cases h1 : a < b <;> by_cases h2 : a = b <;> simp [h1, h2]
theorem JOq (x : Str) : strLt x x = false := by
 rw [JCo];simp [List.lt_irrefl]
theorem JIF {x y z : Str} (h1 : strLt x y = true) (h2 : strLt y z = true) : strLt x z = true := by
 rw [JCo, decide_eq_true_eq] at *;exact List.lt_trans h1 h2
theorem JGq : ∀ {x y : Str}, strLt x y = false → strLt y x = false → x = y
 | [], [], _, _ => rfl
 | [], b :: y, h, _ => by simp [strLt, Op.bytesLess] at h
 | a :: x, [], _, h => by simp [strLt, Op.bytesLess] at h
 | a :: x, b :: y, h1, h2 => by
  simp only [strLt, Op.bytesLess, Bool.or_eq_false_iff, decide_eq_false_iff_not, Bool.and_eq_false_iff, beq_eq_false_iff_ne] at h1 h2;obtain ⟨p1, p2⟩ := h1;obtain ⟨q1, q2⟩ := h2;have e : a = b := by
   rw [UInt8.lt_iff_toNat_lt] at p1 q1;exact UInt8.toNat_inj.1 oM
  subst e;have r1 := p2.resolve_left (fun h => h rfl);have r2 := q2.resolve_left (fun h => h rfl);rw [JGq (x := x) (y := y) r1 r2]
end Go.Proofs
namespace Go.Proofs
open Go Av
variable {f : Fld} {n m : Str} {S : List (List Str)} {v : Val}
def look (n : Str) : List Fld → Option Val
 | [] => none
 | f :: r => if f.name = n then some f.value else look n r
def Uy : List Fld → Str → Val → List Fld
 | [], n, x => [.mk n x]
 | f :: r, n, x => if f.name = n then .mk n x :: r else if strLt n f.name then .mk n x :: f :: r else f :: Uy r n x
def SF (l : List Fld) : Prop := l.Pairwise fun a b => strLt a.name b.name = true
theorem JDc {x y : Str} (h : strLt x y = true) : strLt y x = false := by
 cases hb : strLt y x with
 | false => rfl
 | true => have := JIF h hb; rw [JOq] at this; cases this
theorem lt_ne {x y : Str} (h : strLt x y = true) : x ≠ y := fun e => by rw [e, JOq] at h; cases h
theorem JV (n : Str) (x : Val) : (Fld.mk n x).name = n := rfl
theorem JEp (n : Str) (x : Val) : (Fld.mk n x).value = x := rfl
theorem JAc (n : Str) (x : Val) : Uy [] n x = [.mk n x] := rfl
theorem Xv (h : f.name = n) (r : List Fld) (x : Val) : Uy (f :: r) n x = .mk n x :: r := by rw [Uy, if_pos h]
theorem Um (h : f.name ≠ n) (h2 : strLt n f.name = true) (r : List Fld) (x : Val) : Uy (f :: r) n x = .mk n x :: f :: r := by rw [Uy, if_neg h, if_pos h2]
theorem UN (h : f.name ≠ n) (h2 : strLt n f.name = false) (r : List Fld) (x : Val) : Uy (f :: r) n x = f :: Uy r n x := by rw [Uy, if_neg h, if_neg (nF h2)]
theorem lt_or (h : n ≠ m) : (strLt n m = true ∧ strLt m n = false) ∨ (strLt m n = true ∧ strLt n m = false) := by
 cases h1 : strLt n m with
 | true => exact .inl ⟨rfl, JDc h1⟩
 | false =>
  cases h2 : strLt m n with
  | true => exact .inr ⟨rfl, rfl⟩
  | false => exact absurd (JGq h1 h2) h
theorem JFs (h : n ≠ m) (a b : Val) : ∀ l : List Fld, Uy (Uy l n a) m b = Uy (Uy l m b) n a
 | [] => by
  have h' : m ≠ n := Ne.symm h;rw [JAc, JAc];rcases lt_or h with ⟨p, q⟩ | ⟨p, q⟩
  ·rw [UN (by rw [JV]; exact h) (by rw [JV]; exact q), JAc, Um (by rw [JV]; exact h') (by rw [JV]; exact p)]
  ·rw [Um (by rw [JV]; exact h) (by rw [JV]; exact p), UN (by rw [JV]; exact h') (by rw [JV]; exact q), JAc]
 | f :: r => by
  have h' : m ≠ n := Ne.symm h;have ih := JFs h a b r;by_cases e1 : f.name = n
  ·have e2 : f.name ≠ m := fun e => h (e1.symm.trans e)
   rw [Xv e1];cases hl : strLt m f.name with
   | true =>
    have hl' : strLt m n = true := by rw [← e1]; exact hl
    rw [Um (by rw [JV]; exact h) (by rw [JV]; exact hl'), Um e2 hl, UN (by rw [JV]; exact h') (by rw [JV]; exact JDc hl'), Xv e1]
   | false =>
    have hl' : strLt m n = false := by rw [← e1]; exact hl
    rw [UN (by rw [JV]; exact h) (by rw [JV]; exact hl'), UN e2 hl, Xv e1]
  ·by_cases e2 : f.name = m
   ·rw [Xv e2 r b];cases hl : strLt n f.name with
    | true =>
     have hl' : strLt n m = true := by rw [← e2]; exact hl
     rw [Um e1 hl, UN (by rw [JV]; exact h) (by rw [JV]; exact JDc hl'), Xv e2, Um (by rw [JV]; exact h') (by rw [JV]; exact hl')]
    | false =>
     have hl' : strLt n m = false := by rw [← e2]; exact hl
     rw [UN e1 hl, Xv e2, UN (by rw [JV]; exact h') (by rw [JV]; exact hl')]
   ·cases p : strLt n f.name with
    | true =>
     cases q : strLt m f.name with
     | true =>
      rw [Um e1 p, Um e2 q];rcases lt_or h with ⟨s, u⟩ | ⟨s, u⟩
      ·rw [UN (by rw [JV]; exact h) (by rw [JV]; exact u), Um e2 q, Um (by rw [JV]; exact h') (by rw [JV]; exact s)]
      ·rw [Um (by rw [JV]; exact h) (by rw [JV]; exact s), UN (by rw [JV]; exact h') (by rw [JV]; exact u), Um e1 p]
     | false =>
      have h1 : strLt m n = false := by
       cases hb : strLt m n with
       | false => rfl
       | true => have := JIF hb p; rw [q] at this; cases this
      rw [Um e1 p, UN (by rw [JV]; exact h) (by rw [JV]; exact h1), UN e2 q, Um e1 p]
    | false =>
     cases q : strLt m f.name with
     | true =>
      have h1 : strLt n m = false := by
       cases hb : strLt n m with
       | false => rfl
       | true => have := JIF hb q; rw [p] at this; cases this
      rw [UN e1 p, Um e2 q, Um e2 q, UN (by rw [JV]; exact h') (by rw [JV]; exact h1), UN e1 p]
     | false => rw [UN e1 p, UN e2 q, UN e2 q, UN e1 p, ih]
theorem JEq (n : Str) (a b : Val) : ∀ l : List Fld, Uy (Uy l n a) n b = Uy l n b
 | [] => by rw [JAc, Xv (JV n a)]; rfl
 | f :: r => by
  by_cases e1 : f.name = n
  ·rw [Xv e1, Xv (JV n a), Xv e1]
  ·cases p : strLt n f.name with
   | true => rw [Um e1 p, Xv (JV n a), Um e1 p]
   | false => rw [UN e1 p, UN e1 p, UN e1 p, JEq n a b r]
theorem JEr (n : Str) (x : Val) : ∀ l : List Fld, look n (Uy l n x) = some x
 | [] => by rw [JAc, look, if_pos (JV n x), JEp]
 | f :: r => by
  by_cases e1 : f.name = n
  ·rw [Xv e1, look, if_pos (JV n x), JEp]
  ·cases p : strLt n f.name with
   | true => rw [Um e1 p, look, if_pos (JV n x), JEp]
   | false => rw [UN e1 p, look, if_neg e1, JEr n x r]
theorem Zd (h : n ≠ m) (x : Val) : ∀ l : List Fld, look m (Uy l n x) = look m l
 | [] => by simp [Uy, look, JV, h]
 | f :: r => by
  by_cases e1 : f.name = n
  ·rw [Xv e1, look, if_neg (by rw [JV]; exact h), look, if_neg (by rw [e1]; exact h)]
  ·cases p : strLt n f.name with
   | true => rw [Um e1 p, look, if_neg (by rw [JV]; exact h)]
   | false => rw [UN e1 p, look, look, Zd h x r]
theorem JIG (n : Str) (x : Val) : ∀ l : List Fld, (Uy l n x).length ≤ l.length + 1
 | [] => by simp [Uy]
 | f :: r => by
  have := JIG n x r;simp only [Uy];split
  ·simp
  ·split <;> simp <;> omega
theorem JIH {x : Val} : ∀ {l : List Fld} {f : Fld}, f ∈ Uy l n x → f.name = n ∨ f ∈ l
 | [], f, h => by
  simp only [Uy, List.mem_singleton] at h;subst h;exact .inl rfl
 | g :: r, f, h => by
  simp only [Uy] at h;split at h
  ·rcases VA.1 h with rfl | h
   ·exact .inl rfl
   ·exact .inr (Vn _ h)
  ·split at h
   ·rcases VA.1 h with rfl | h
    ·exact .inl rfl
    ·exact .inr h
   ·rcases VA.1 h with rfl | h
    ·exact .inr Vh
    ·exact (JIH h).imp id (Vn _)
theorem JJc (n : Str) (x : Val) : ∀ {l : List Fld}, SF l → SF (Uy l n x)
 | [], _ => List.pairwise_singleton _ _
 | f :: r, h => by
  obtain ⟨h1, h2⟩ := List.pairwise_cons.1 h;simp only [Uy];split
  ·rename_i e;exact List.pairwise_cons.2 ⟨fun g hg => by rw [JV, ← e]; exact h1 g hg, h2⟩
  ·rename_i e;split
   ·rename_i p;refine List.pairwise_cons.2 ⟨fun g hg => ?_, h⟩;rcases VA.1 hg with rfl | hg
    ·exact p
    ·exact JIF p (h1 g hg)
   ·rename_i p;refine List.pairwise_cons.2 ⟨fun g hg => ?_, JJc n x h2⟩;rcases JIH hg with e' | hg
    ·rw [e'];cases hb : strLt f.name n with
     | true => rfl
     | false => exact absurd (JGq hb (sX p)) e
    ·exact h1 g hg
def wth (v : Val) (n : Str) (x : Val) : Val := .mk v.kind v.int v.scale v.text v.list (Uy v.fields n x)
def UB : Val := .mk 9 0 0 [] [] []
def YN (v : Val) (n : Str) : Val := (look n v.fields).getD UB
def YE : List Str → Val → Val → Val
 | [], v, _ => v
 | [n], v, x => if Uh x then v else wth v n x
 | n :: m :: r, v, x => wth v n (YE (m :: r) (YN v n) x)
theorem UE {r : List Str} (h : r ≠ []) (v x : Val) : YE (n :: r) v x = wth v n (YE r (YN v n) x) := by
 cases r with
 | nil => exact absurd rfl h
 | cons m r => rfl
theorem Yk (v : Val) (n : Str) (x : Val) : (wth v n x).fields = Uy v.fields n x := rfl
theorem JB4 (h : n ≠ m) (v a b : Val) : wth (wth v n a) m b = wth (wth v m b) n a := by
 unfold wth;simp only [Val.kind, Val.int, Val.scale, Val.text, Val.list, Val.fields, JFs h]
theorem JFt (v : Val) (n : Str) (a b : Val) : wth (wth v n a) n b = wth v n b := by
 unfold wth;simp only [Val.kind, Val.int, Val.scale, Val.text, Val.list, Val.fields, JEq]
theorem JEs (v : Val) (n : Str) (x : Val) : YN (wth v n x) n = x := by rw [YN, Yk, JEr]; rfl
theorem Ys (h : n ≠ m) (v : Val) (x : Val) : YN (wth v n x) m = YN v m := by rw [YN, Yk, Zd h]; rfl
def Xw : List Str → List Str → Prop
 | n :: r, m :: s => n = m → Xw r s
 | _, _ => False
theorem JAG : ∀ {a b : List Str}, Xw a b → Xw b a
 | [], _, h => h.elim
 | _ :: _, [], h => h.elim
 | n :: r, m :: s, h => fun e => JAG (h e.symm)
theorem JFu : ∀ (a b : List Str) (v x y : Val), Xw a b → YE b (YE a v x) y = YE a (YE b v y) x
 | [], _, _, _, _, h => h.elim
 | _ :: _, [], _, _, _, h => h.elim
 | n :: r, m :: s, v, x, y, h => by
  by_cases e : n = m
  ·subst e;have h' := h rfl;have hr : r ≠ [] := fun e => by rw [e] at h'; exact h'
   have hs : s ≠ [] := fun e => by rw [e] at h'; cases r <;> exact h'
   rw [UE hr, UE hs, UE hs, UE hr, JEs, JEs, JFt, JFt, JFu r s _ _ _ h']
  ·by_cases hr : r = []
   ·subst hr;by_cases hs : s = []
    ·subst hs;simp only [YE];split
     ·rfl
     ·split
      ·rfl
      ·exact JB4 e _ _ _
    ·rw [UE hs, UE hs];simp only [YE];split
     ·rfl
     ·rw [Ys e, JB4 e]
   ·by_cases hs : s = []
    ·subst hs;rw [UE hr, UE hr];simp only [YE];split
     ·rfl
     ·rw [Ys (Ne.symm e), JB4 e]
    ·rw [UE hr, UE hs, UE hs, UE hr, Ys e, Ys (Ne.symm e), JB4 e]
def JDC (S : List (List Str)) (n : Str) : List (List Str) := S.filterMap fun
 | m :: t => if m = n then some t else none
 | [] => none
theorem JLl (S : List (List Str)) (n : Str) : (JDC S n).length ≤ S.length := List.length_filterMap_le _ _
theorem JEt (n : Str) (r : List Str) (S : List (List Str)) (m : Str) : JDC ((n :: r) :: S) m = if n = m then r :: JDC S m else JDC S m := by
 simp only [JDC, List.filterMap_cons];split <;> rename_i e
 ·split at e
  ·cases e
  ·rename_i h; rw [if_neg h]
 ·split at e
  ·rename_i h; cases e; rw [if_pos h]
  ·cases e
inductive Inv : List (List Str) → Val → Prop
 | mk (S : List (List Str)) (v : Val) (hk : v.kind = 9) (hs : SF v.fields) (hl : v.fields.length ≤ S.length) (h : ∀ n y, look n v.fields = some y → ¬ [n] ∈ S → Inv (JDC S n) y) : Inv S v
theorem Inv.kind (h : Inv S v) : v.kind = 9 := by cases h; assumption
theorem Inv.sf (h : Inv S v) : SF v.fields := by cases h; assumption
theorem Inv.len (h : Inv S v) : v.fields.length ≤ S.length := by cases h; assumption
theorem Inv.nil : Inv [] UB := .mk _ _ rfl List.Pairwise.nil (Nat.le_refl _) fun n y h => by cases h
theorem Inv.grow (h : Inv S v) : ∀ {T : List (List Str)} (l : List Str), T = l :: S → Inv T v := by
 induction h with
 | mk S v hk hs hl h ih =>
  rintro T l rfl;refine .mk _ _ hk hs sO fun n y hy hn => ?_
  have hn' : ¬ [n] ∈ S := fun hx => hn (Vn _ hx)
  cases l with
  | nil => exact h n y hy hn'
  | cons m t =>
   rw [JEt];split
   ·exact ih n y hy hn' t rfl
   ·exact h n y hy hn'
theorem Inv.inner (h : Inv S v) {r : List Str} (hr : r ≠ []) (ha : ∀ s ∈ S, Xw (n :: r) s) : Inv (JDC S n) (YN v n) ∧ ∀ s ∈ JDC S n, Xw r s := by
 refine ⟨?_, ?_⟩
 ·have hn : ¬ [n] ∈ S := fun hx => by
   have := ha _ hx rfl;cases r with
   | nil => exact hr rfl
   | cons _ _ => exact this
  cases h with
  | mk _ _ hk hs hl h =>
   unfold YN;cases e : look n v.fields with
   | some y => exact h n y e hn
   | none =>
    simp only [Option.getD_none];refine .mk _ _ rfl List.Pairwise.nil (Nat.zero_le _) fun n y h => by cases h
 ·intro s hs;obtain ⟨l, hl, e⟩ := List.mem_filterMap.1 hs;cases l with
  | nil => cases e
  | cons m t =>
   simp only at e;split at e
   ·rename_i e';cases e;subst e';exact ha _ hl rfl
   ·cases e
theorem Inv.put : ∀ (l : List Str) {S : List (List Str)} {v : Val} (x : Val), l ≠ [] → Inv S v → (∀ s ∈ S, Xw l s) → Inv (l :: S) (YE l v x)
 | [], _, _, _, h, _, _ => absurd rfl h
 | n :: r, S, v, x, _, hi, ha => by
  have hlen : ∀ y : Val, (Uy v.fields n y).length ≤ ((n :: r) :: S).length := fun y => by
   have h1 := JIG n y v.fields;have h2 := hi.len;simp only [Vf];omega
  by_cases hr : r = []
  ·subst hr;simp only [YE];split
   ·exact hi.grow _ rfl
   ·have hi' := hi.grow [n] rfl;cases hi' with
    | mk _ _ hk hs hl h =>
     refine .mk _ _ hk (JJc _ _ hs) (hlen x) fun m y hy hm => ?_
     have e : n ≠ m := fun e => hm (by rw [e]; exact Vh)
     rw [Yk, Zd e] at hy;exact h m y hy hm
  ·rw [UE hr];obtain ⟨h1, h2⟩ := hi.inner hr ha;have hp := Inv.put r x hr h1 h2;have hi' := hi.grow (n :: r) rfl;cases hi' with
   | mk _ _ hk hs hl h =>
    refine .mk _ _ hk (JJc _ _ hs) (hlen _) fun m y hy hm => ?_
    by_cases e : n = m
    ·subst e;rw [Yk, JEr] at hy;cases hy;rw [JEt, if_pos rfl];exact hp
    ·rw [Yk, Zd e] at hy;exact h m y hy hm
def Xm (v : Val) (l : List (List Str × Val)) : Val := l.foldl (fun v p => YE p.1 v p.2) v
theorem JEu : ∀ (l : List (List Str × Val)) (p : List Str × Val) (v : Val), (∀ q ∈ l, Xw p.1 q.1) → YE p.1 (Xm v l) p.2 = Xm (YE p.1 v p.2) l
 | [], _, _, _ => rfl
 | q :: r, p, v, h => by
  show YE p.1 (Xm (YE q.1 v q.2) r) p.2 = Xm (YE q.1 (YE p.1 v p.2) q.2) r;rw [JEu r p _ fun q hq => h q (Vn _ hq), JFu q.1 p.1 v q.2 p.2 (JAG (h q Vh))]
theorem JJd (v : Val) (a b : List (List Str × Val)) : Xm v (a ++ b) = Xm (Xm v a) b := List.foldl_append ..
theorem JEv : ∀ (l : List (List Str × Val)) (v : Val), l.Pairwise (fun p q => Xw p.1 q.1) → Xm v l.reverse = Xm v l
 | [], _, _ => rfl
 | p :: r, v, h => by
  obtain ⟨h1, h2⟩ := List.pairwise_cons.1 h;rw [List.reverse_cons, JJd];show YE p.1 (Xm v r.reverse) p.2 = Xm (YE p.1 v p.2) r;rw [JEv r v h2, JEu r p v h1]
end Go.Proofs
namespace Go.Proofs
open Go Av
theorem JJe (r : Rule) (rs : List Rule) (seen : List (List Part)) : JAF (r :: rs) seen = if (JH r.target).2 != 0 then (JH r.target).2 else if JJJ (JH r.target).1 then 22 else if anyM (JH r.target).1 seen then 7 else JAF rs (seen ++ [(JH r.target).1]) := rfl
theorem JB5 (ls : List (List Part)) : Ji (ls.map UX) = ls.map UX := by
 rw [Uf, List.map_map];exact List.map_congr_left fun p _ => by simp [UX, Dat.canon, JBs]
attribute [go_sem] JB5
theorem JB6 : ∀ (n : Nat) (s : Str) (ps : List Part), Xk n s = some ps → ∀ p ∈ ps, J7 p = true
 | 0, s, ps, h, p, hp => by simp only [Xk, Vd] at h; subst h; cases hp
 | n + 1, s, ps, h, p, hp => by
  simp only [Xk] at h;split at h
  ·simp only [Vd] at h; subst h; cases hp
  ·split at h
   ·cases h
   ·rename_i hv;split at h
    ·rename_i ps' e;simp only [Vd] at h;subst h;rcases VA.1 hp with rfl | hp
     ·simp only [Vx, Bool.not_eq_true', not_or, Bool.not_eq_false] at hv;exact hv.2
     ·exact JB6 n _ _ e p hp
    ·cases h
theorem JCp {s : Str} (h : (JH s).2 = 0) : (JH s).1 ≠ [] ∧ (∀ p ∈ (JH s).1, J7 p = true) ∧ (JH s).1.length ≤ 16 := by
 unfold JH at h ⊢;split at h
 ·cases h
 rename_i h1;rw [if_neg h1];split at h
 ·cases h
 rename_i h2;rw [if_neg h2];split at h
 ·rename_i ps e;split at h
  ·cases h
  ·rename_i h3;simp only [e, if_neg h3];refine ⟨?_, JB6 _ _ _ e, oM⟩;rintro rfl;simp only [Xk] at e;split at e
   ·rename_i h4; simp at h4
   ·split at e
    ·cases e
    ·split at e <;> simp at e
 ·cases h
def Up (l : List Part) : List Str := l.map Part.name
theorem JDD {l : List Part} (h : ∀ p ∈ l, J7 p = true) (hk : JJJ l = false) : ∀ p ∈ l, p.kind = 1 ∧ p.index = 0 ∧ XK p.name = true := by
 intro p hp;have h1 : p.kind = 1 := by
  have := List.any_eq_false.1 hk p hp;simpa using this
 have h2 := h p hp;unfold J7 at h2;rw [if_pos (.inl h1)] at h2;simp only [Vi, beq_iff_eq] at h2;exact ⟨h1, h2.1, h2.2⟩
theorem JLm (a : Part) (r : List Part) (b : Part) (s : List Part) : Zl (a :: r) (b :: s) = (eqP a b && Zl r s) := rfl
theorem JII (a : Part) (r : List Part) (b : Part) (s : List Part) : XQ (a :: r) (b :: s) = (eqP a b && XQ r s) := by
 simp only [XQ, Vf, List.take_succ_cons, JLm];have : decide (((r.length + 1 : Nat) : Int) ≥ ((s.length + 1 : Nat) : Int)) = decide ((r.length : Int) ≥ (s.length : Int)) := by
  rw [decide_eq_decide]; omega
 rw [this];cases decide ((r.length : Int) ≥ (s.length : Int)) <;> cases eqP a b <;> simp
theorem JBH (a b : List Part) : meets a b = meets b a := by simp only [meets, Bool.or_comm]
theorem JIJ : ∀ {a b : List Part}, (∀ p ∈ a, p.kind = 1 ∧ p.index = 0) → (∀ p ∈ b, p.kind = 1 ∧ p.index = 0) → meets a b = false → Xw (Up a) (Up b)
 | [], b, _, _, h => by
  have : XQ b [] = true := by simp [XQ, Zl]
  simp [meets, this] at h
 | p :: r, [], _, _, h => by
  have : XQ (p :: r) [] = true := by simp only [XQ, Vf, Vm, List.take_zero, Zl, Bool.and_true, decide_eq_true_eq]; omega
  simp [meets, this] at h
 | p :: r, q :: s, h1, h2, h => by
  intro e;have e1 : p = q := by
   obtain ⟨a1, a2⟩ := h1 p Vh;obtain ⟨b1, b2⟩ := h2 q Vh;cases p; cases q;simp only at a1 a2 b1 b2 e ⊢;subst a1; subst a2; subst b1; subst b2;simp only [Part.mk.injEq, true_and];exact e
  subst e1;refine JIJ (fun x hx => h1 x (Vn _ hx)) (fun x hx => h2 x (Vn _ hx)) ?_;have ep : eqP p p = true := JDW.2 rfl;simp only [meets, JII, ep, Vt] at h;exact h
def formed (m : List Rule) : Prop := (∀ r ∈ m, (JH r.target).2 = 0 ∧ JJJ (JH r.target).1 = false) ∧ m.Pairwise fun r s => meets (JH r.target).1 (JH s.target).1 = false
theorem JFv : ∀ (m : List Rule) (seen : List (List Part)), JAF m seen = 0 ↔ formed m ∧ ∀ r ∈ m, anyM (JH r.target).1 seen = false
 | [], seen => by simp [JAF, formed]
 | r :: m, seen => by
  have ih := JFv m (seen ++ [(JH r.target).1]);rw [JJe];have hP : ∀ x : List Part, anyM x (seen ++ [(JH r.target).1]) = (anyM x seen || meets x (JH r.target).1) := fun x => by simp [anyM]
  constructor
  ·intro h;split at h
   ·rename_i h1; simp only [bne_iff_ne, ne_eq] at h1; exact absurd h h1
   rename_i h1;split at h
   ·cases h
   rename_i h2;split at h
   ·cases h
   rename_i h3;obtain ⟨⟨i1, i2⟩, i3⟩ := ih.1 h;refine ⟨⟨fun s hs => ?_, List.pairwise_cons.2 ⟨fun s hs => ?_, i2⟩⟩, fun s hs => ?_⟩
   ·rcases VA.1 hs with rfl | hs
    ·exact ⟨by simpa using h1, by simpa using h2⟩
    ·exact i1 s hs
   ·have := i3 s hs;rw [hP, Bool.or_eq_false_iff] at this;rw [JBH];exact this.2
   ·rcases VA.1 hs with rfl | hs
    ·simpa using h3
    ·have := i3 s hs;rw [hP, Bool.or_eq_false_iff] at this;exact this.1
  ·rintro ⟨⟨i1, i2⟩, i3⟩;obtain ⟨p1, p2⟩ := List.pairwise_cons.1 i2;obtain ⟨a1, a2⟩ := i1 r Vh;have a3 := i3 r Vh;rw [if_neg (by simp [a1]), if_neg (by simp [a2]), if_neg (by simp [a3])];refine ih.2 ⟨⟨fun s hs => i1 s (Vn _ hs), p2⟩, fun s hs => ?_⟩;rw [hP, i3 s (Vn _ hs), Bool.false_or, JBH];exact p1 s hs
theorem JAd (m : List Rule) : XZ m = 0 ↔ (m.length : Int) ≤ 256 ∧ formed m := by
 unfold XZ;split
 ·rename_i h; constructor
  ·intro h; cases h
  ·rintro ⟨h', _⟩; omega
 ·rename_i h;rw [JFv];constructor
  ·rintro ⟨a, _⟩; exact ⟨oM, a⟩
  ·rintro ⟨_, a⟩; exact ⟨a, fun r _ => by simp [anyM]⟩
theorem JBI {m : List Rule} (h : formed m) : formed m.reverse := by
 refine ⟨fun r hr => h.1 r (List.mem_reverse.1 hr), ?_⟩;rw [List.pairwise_reverse];exact h.2.imp fun {a b} hab => by rw [JBH]; exact hab
theorem JFw (m : List Rule) : XZ m.reverse = 0 ↔ XZ m = 0 := by
 rw [JAd, JAd, List.length_reverse];constructor
 ·rintro ⟨a, b⟩; refine ⟨a, ?_⟩; have := JBI b; rwa [List.reverse_reverse] at this
 ·rintro ⟨a, b⟩; exact ⟨a, JBI b⟩
theorem JB7 {m : List Rule} (h : formed m) : m.Pairwise fun r s => Xw (Up (JH r.target).1) (Up (JH s.target).1) := by
 have hk : ∀ r ∈ m, ∀ p ∈ (JH r.target).1, p.kind = 1 ∧ p.index = 0 := fun r hr p hp => by
  obtain ⟨h1, h2⟩ := h.1 r hr;obtain ⟨a, b, _⟩ := JDD (JCp h1).2.1 h2 p hp;exact ⟨a, b⟩
 refine List.Pairwise.imp_of_mem ?_ h.2;intro r s hr hs hrs;exact JIJ (hk r hr) (hk s hs) hrs
end Go.Proofs
