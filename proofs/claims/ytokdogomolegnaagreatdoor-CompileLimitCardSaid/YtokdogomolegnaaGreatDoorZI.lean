/- Part I of a proof. -/
import Derived.Test.YtokdogomolegnaaGreatDoorZH
set_option linter.unusedVariables false
set_option linter.unusedSimpArgs false
set_option linter.unusedSectionVars false
set_option linter.constructorNameAsVariable false
set_option linter.unnecessarySimpa false
set_option maxRecDepth 100000
namespace Go.Proofs
open Go Av

theorem k4 : entOK Tryz.prog w27X17 K27 4 [] (.d (.bool true)) = true := by kernel_rfl
def w27t18 : Tbl := [(4, [], .d (.bool true))]
theorem w27t18_ok : tblOK Tryz.prog w27X17 K27 w27t18 = true := by
  show (entOK Tryz.prog w27X17 K27 4 [] (.d (.bool true)) && true) = true
  rw [k4]; rfl
def w27X18 : Ext := ext w27t18 w27X17
theorem w27X18_ok : ExtOK Tryz.prog w27X18 := ext_ok w27X17_ok w27t18_ok

noncomputable def limB : Nat → Nat → Bool
  | _, 0 => true
  | a, k + 1 => entOK Tryz.prog w27X18 K27 3 [.int .u8 (Int.ofNat a)] (.d (.bool true)) && limB (a + 1) k
theorem limB_ok : ∀ (k a : Nat), limB a k = true → ∀ n, a ≤ n → n < a + k → entOK Tryz.prog w27X18 K27 3 [.int .u8 (Int.ofNat n)] (.d (.bool true)) = true
  | 0, a, _, n, h1, h2 => absurd h2 (by omega)
  | k + 1, a, h, n, h1, h2 => by
    rw [limB, Bool.and_eq_true] at h
    by_cases e : n = a
    · rw [e]; exact h.1
    · exact limB_ok k (a + 1) h.2 n (by omega) (by omega)
theorem lim0 : limB 0 64 = true := by kernel_rfl
theorem lim1 : limB 64 64 = true := by kernel_rfl
theorem lim2 : limB 128 64 = true := by kernel_rfl
theorem lim3 : limB 192 64 = true := by kernel_rfl
theorem walk3 (n : Int) (h0 : 0 ≤ n) (h1 : n < 256) : PCon Tryz.prog 3 [.int .u8 n] (.d (.bool true)) := by
  obtain ⟨k, rfl⟩ := Int.eq_ofNat_of_zero_le h0
  have hk : k < 256 := by omega
  refine (entOK_ok (K := K27) w27X18_ok (l := [.int .u8 (Int.ofNat k)]) ?_).1
  by_cases a : k < 64
  · exact limB_ok 64 0 lim0 k (by omega) (by omega)
  by_cases b : k < 128
  · exact limB_ok 64 64 lim1 k (by omega) (by omega)
  by_cases c : k < 192
  · exact limB_ok 64 128 lim2 k (by omega) (by omega)
  · exact limB_ok 64 192 lim3 k (by omega) (by omega)
end Go.Proofs
