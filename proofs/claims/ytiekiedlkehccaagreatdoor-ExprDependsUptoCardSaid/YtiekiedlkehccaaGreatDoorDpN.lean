/- Part N of a proof. -/
import Derived.Shelf.SlGeneric
import Derived.Shelf.Slices.Clone
import Derived.Ground.Names2Prog
import Derived.Test.YtiekiedlkehccaaGreatDoorProg
import Derived.Test.YtiekiedlkehccaaGreatDoorDpC
import Derived.Test.YtiekiedlkehccaaGreatDoorDpA
import Derived.Test.YtiekiedlkehccaaGreatDoorDpI
import Derived.Test.YtiekiedlkehccaaGreatDoorDpD
set_option linter.unusedVariables false
set_option linter.unusedSimpArgs false
set_option linter.unusedSectionVars false
set_option maxRecDepth 10000
namespace Go.Proofs
open Go.Shelf
def Tryz.laysClone_ren : Go.Shelf.Ren := ⟨fun | 16 => 227 | n => n, fun | 24 => 22 | 9 => 9 | 4 => 4 | n => n, fun | n => n⟩
theorem Tryz.laysClone : Go.Proofs.Lays2.n16 Tryz.prog Tryz.laysClone_ren := {
 mixed := kR
 f16 := Tryz.func227.trans (congrArg some kR)
 t4 := Tryz.underlying4
 a4 := Tryz.isAgg4
 z4 := Tryz.sizeOf4
 v4 := Tryz.zeroValue4
 t9 := Tryz.underlying9
 a9 := Tryz.isAgg9
 z9 := Tryz.sizeOf9
 v9 := Tryz.zeroValue9
 t24 := Tryz.underlying22
 a24 := Tryz.isAgg22
 z24 := Tryz.sizeOf22
 v24 := Tryz.zeroValue22
 i9 := by kernel_rfl }
end Go.Proofs
namespace Go.Proofs
open Go Av Go.RowKit
theorem clone196 (ss : List Str) : CT 227 [.d (.list 1 (ss.map .str))] [] (.d (.list 1 (ss.map .str))) [] := by
 refine CallOK.of_callsN (ds := [.list 1 (ss.map .str)]) ⟨_, Tryz.func227, kR, kR⟩ fun A w vs hl hv => ?_
 obtain ⟨v, rfl⟩ := size_one (sX hl);have hr := hv 0 _ v rfl rfl;have hf := hr.fits;simp only [fits, List.length_map] at hf;have hfl : (flat (ss.map Dat.str)) = ss.map .str := flat_str ss;have hs : ∀ s ∈ ss, s.length ≤ 68719476736 := fun s h => fitsL_iff.1 hf.2 (.str s) (List.mem_map.2 ⟨s, h, rfl⟩)
 generalize hD : ss.map Dat.str = D at hr hfl;cases hr with
 | emp _ a cap =>
  obtain rfl : ss = [] := List.map_eq_nil_iff.1 hD;cases a with
  | none => exact (Any.slices_Clone_string_nil Tryz.laysClone 0 cap w).mono fun e w' ⟨h1, h2⟩ => ⟨_, h1, by rw [h2]; exact Below.refl _ _, .emp 1 none 0⟩
  | some a =>
   refine (Any.slices_Clone_string_zero Tryz.laysClone a cap w).mono ?_;rintro e w' ⟨v', rfl, h, _, hb⟩;exact ⟨_, rfl, hb, rep_owns (ss := []) rfl sP sP h⟩
 | list _ _ b o n cap vs hn hA hcap hc h1 hsz hh hvl hvv =>
  subst hD;have hlen : n = ss.length := sX hn;have hcell : ∀ j (h : j < ss.length), vs[j]? = some (.string ⟨ss[j].toArray⟩) := by
   intro j h;rw [flat_str] at hvl;have hj : j < vs.length := by simp at hvl; omega
   have := hvv j (.str ss[j]) vs[j] (by rw [flat_str]; simp [h]) (by simp [hj]);rw [List.getElem?_eq_getElem hj];generalize vs[j] = z at this;cases this;rfl
  refine (Any.slices_Clone_string Tryz.laysClone b o n cap (ss.map fun s => ⟨s.toArray⟩) w sO oM ?_).mono ?_
  ·intro j hj;have hj' : j < ss.length := sX hj;have := hh j _ (hcell j hj');rw [this];simp [hj']
  ·rintro e w' ⟨v', rfl, h, _, hb⟩;rw [List.take_of_length_le sO, List.map_map] at h;exact ⟨_, rfl, hb, rep_owns hlen hs hf.1 h⟩
def X1c : Ext := fun f ds => match f, ds with
 | 227, [.nil 1] => some (.d (.list 1 []))
 | 227, [.list 1 []] => some (.d (.list 1 []))
 | f, ds => X1 f ds
theorem X1c_ok : ExtOK Tryz.prog X1c := by
 intro f ds d h;unfold X1c at h;split at h
 ·cases h;exact CallOK.canon (clone196 [])
 ·cases h;exact clone196 []
 ·exact X1_ok _ _ _ h
end Go.Proofs
