/- Part M of a proof. -/
import Derived.Test.YtiekiedlkehccaaGreatDoorEqE
import Derived.Laws.AppendOwn
import Derived.Shelf.SlGeneric
import Derived.Shelf.Slices.Clone
import Derived.Ground.Names2Prog
import Derived.Test.YtiekiedlkehccaaGreatDoorProg
import Derived.Test.YtiekiedlkehccaaGreatDoorEqD
set_option linter.unusedVariables false
set_option linter.unusedSimpArgs false
set_option linter.unusedSectionVars false
set_option maxRecDepth 10000
namespace Av
open Go Go.RowKit
variable [Glb] [Rls]

theorem CallOK.of_callsN {P : Program} {f : Nat} {ds : List Dat} {x : Dat} (hh : Has P f)
    (h : ∀ (A : Nat → Prop) (w : World) (vs : Array Value), ds.length = vs.size → (∀ (i : Nat) d u, ds[i]? = some d → vs[i]? = some u → Rep A w d u) →
      Calls P f vs w fun e w' => ∃ u, e = .returned u ∧ Below w.heap.size w w' ∧ Rep (fun b => A b ∨ (w.heap.size ≤ b ∧ b < w'.heap.size)) w' x u) : CallOK P f (ds.map .d) [] (.d x) [] := by
  intro β A w H vs _ hc hvs
  have hl : ds.length = vs.size := by simpa using hvs.1
  refine .inl ⟨hh, (h A w vs hl ?_).mono ?_⟩
  · intro i d u hd hu
    have := hvs.2 i (.d d) u (by rw [List.getElem?_map, hd]; rfl) hu
    exact this.of_d
  · rintro e w' ⟨u, rfl, hb, hr⟩
    refine ⟨u, rfl, β, fun b => A b ∨ (w.heap.size ≤ b ∧ b < w'.heap.size), ?_, .d _ _ hr⟩
    refine Stp.new hc hb.os hb.tape hb.output hb.size hb.block (fun _ h => .inl h) ?_ ?_
    · rintro b (h | h)
      · exact .inl h
      · exact .inr h.1
    · rintro b (h | h)
      · exact Nat.lt_of_lt_of_le (hc.old b h) hb.size
      · exact h.2

/-- a row of strings that a call has laid reads as data -/
theorem rep_owns {A : Nat → Prop} {w w' : World} {e : TypeId} {v : Value} {n : Nat} {ss : List (List UInt8)} (hn : n = ss.length) (hs : ∀ s ∈ ss, s.length ≤ 68719476736) (hl : ss.length ≤ 68719476736)
    (h : w'.ownsRow w.heap.size e 1 v n (ss.map fun s => Value.string ⟨s.toArray⟩)) : Rep (fun b => A b ∨ (w.heap.size ≤ b ∧ b < w'.heap.size)) w' (.list 1 (ss.map .str)) v := by
  obtain ⟨h1, ⟨rfl, h0⟩ | ⟨g, cap, cur, rfl, hg, hh, hcap, _, hcur, htake⟩⟩ := h
  · have : ss = [] := by cases ss with
      | nil => rfl
      | cons a r => simp at hn; omega
    subst this
    exact .emp 1 none 0
  · have hlt : g < w'.heap.size := (Array.getElem?_eq_some_iff.1 hh).1
    refine .list 1 _ g 0 n cap (ss.map fun s => Value.string ⟨s.toArray⟩) (by simpa using hn) (.inr ⟨hg, hlt⟩) (by simp; omega) (by simpa using hl) ?_ ?_ ?_ ?_ ?_
    · intro u hu; obtain ⟨s, _, rfl⟩ := List.mem_map.1 hu; rfl
    · intro x hx; obtain ⟨s, _, rfl⟩ := List.mem_map.1 hx; rfl
    · intro i u hu
      have : (cur.toList.take (n * 1))[i]? = some u := by rw [htake]; exact hu
      rw [List.getElem?_take] at this
      split at this
      · simp only [World.cell?, hh, Nat.zero_add]
        simpa using this
      · cases this
    · rw [flat_str]; simp
    · intro i c u hc hu
      rw [flat_str, List.getElem?_map] at hc
      rw [List.getElem?_map] at hu
      cases q : ss[i]? with
      | none => rw [q] at hc; cases hc
      | some s =>
        rw [q] at hc hu
        cases hc
        cases hu
        exact .str s (hs s (List.mem_of_getElem? q))
end Av

namespace Go.Proofs
open Go.Shelf
def Tryz.laysClone_ren : Go.Shelf.Ren := ⟨fun | 16 => 227 | n => n, fun | 24 => 22 | 9 => 9 | 4 => 4 | n => n, fun | n => n⟩
theorem Tryz.laysClone : Go.Proofs.Lays2.n16 Tryz.prog Tryz.laysClone_ren := {
  mixed := by kernel_rfl
  f16 := Tryz.func227.trans (congrArg some (by kernel_rfl))
  t4 := Tryz.underlying4
  a4 := Tryz.isAgg4
  z4 := Tryz.sizeOf4
  v4 := Tryz.zeroValue4
  t9 := Tryz.underlying9
  a9 := Tryz.isAgg9
  z9 := Tryz.sizeOf9
  v9 := Tryz.zeroValue9
  t24 := Tryz.underlying22
  a24 := Tryz.isAgg22
  z24 := Tryz.sizeOf22
  v24 := Tryz.zeroValue22
  i9 := by kernel_rfl }
end Go.Proofs

namespace Go.Proofs
open Go Av Go.RowKit

theorem clone196 (ss : List Str) : CallOK Tryz.prog 227 [.d (.list 1 (ss.map .str))] [] (.d (.list 1 (ss.map .str))) [] := by
  refine CallOK.of_callsN (ds := [.list 1 (ss.map .str)]) ⟨_, Tryz.func227, by kernel_rfl, by kernel_rfl⟩ fun A w vs hl hv => ?_
  obtain ⟨v, rfl⟩ := size_one (by simpa using hl)
  have hr := hv 0 _ v rfl rfl
  have hf := hr.fits
  simp only [fits, List.length_map] at hf
  have hfl : (flat (ss.map Dat.str)) = ss.map .str := flat_str ss
  have hs : ∀ s ∈ ss, s.length ≤ 68719476736 := fun s h => fitsL_iff.1 hf.2 (.str s) (List.mem_map.2 ⟨s, h, rfl⟩)
  generalize hD : ss.map Dat.str = D at hr hfl
  cases hr with
  | emp _ a cap =>
    obtain rfl : ss = [] := List.map_eq_nil_iff.1 hD
    cases a with
    | none => exact (Any.slices_Clone_string_nil Tryz.laysClone 0 cap w).mono fun e w' ⟨h1, h2⟩ => ⟨_, h1, by rw [h2]; exact Below.refl _ _, .emp 1 none 0⟩
    | some a =>
      refine (Any.slices_Clone_string_zero Tryz.laysClone a cap w).mono ?_
      rintro e w' ⟨v', rfl, h, _, hb⟩
      exact ⟨_, rfl, hb, rep_owns (ss := []) rfl (by simp) (by simp) h⟩
  | list _ _ b o n cap vs hn hA hcap hc h1 hsz hh hvl hvv =>
    subst hD
    have hlen : n = ss.length := by simpa using hn
    have hcell : ∀ j (h : j < ss.length), vs[j]? = some (.string ⟨ss[j].toArray⟩) := by
      intro j h
      rw [flat_str] at hvl
      have hj : j < vs.length := by simp at hvl; omega
      have := hvv j (.str ss[j]) vs[j] (by rw [flat_str]; simp [h]) (by simp [hj])
      rw [List.getElem?_eq_getElem hj]
      generalize vs[j] = z at this
      cases this
      rfl
    refine (Any.slices_Clone_string Tryz.laysClone b o n cap (ss.map fun s => ⟨s.toArray⟩) w (by simp; omega) (by omega) ?_).mono ?_
    · intro j hj
      have hj' : j < ss.length := by simpa using hj
      have := hh j _ (hcell j hj')
      rw [this]
      simp [hj']
    · rintro e w' ⟨v', rfl, h, _, hb⟩
      rw [List.take_of_length_le (by simp; omega), List.map_map] at h
      exact ⟨_, rfl, hb, rep_owns hlen hs hf.1 h⟩

/-- the functions without a body, and slices.Clone of strings -/
def X1c : Ext := fun f ds => match f, ds with
  | 227, [.nil 1] => some (.d (.list 1 []))
  | 227, [.list 1 []] => some (.d (.list 1 []))
  | f, ds => X1 f ds
theorem X1c_ok : ExtOK Tryz.prog X1c := by
  intro f ds d h
  unfold X1c at h
  split at h
  · cases h
    exact CallOK.canon (clone196 [])
  · cases h
    exact clone196 []
  · exact X1_ok _ _ _ h
end Go.Proofs
