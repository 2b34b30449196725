/- strings.IndexByte, IndexRune, IndexAny at the three signs that part a path: what they give lies within the text. -/
import Derived.Test.YtholoaojlcnacaaGreatDoorKernA
import Derived.Test.YtholoaojlcnacaaGreatDoorForms
set_option linter.unusedVariables false
set_option linter.unusedSimpArgs false
set_option linter.unusedSectionVars false
set_option linter.unusedSimpArgs false
set_option linter.unusedVariables false
set_option maxRecDepth 10000
namespace Go.Proofs
open Go Av

/-- the first place of a byte -/
def ixb (s : Str) (c : Int) : Int := idxB s c.toNat.toUInt8 0

theorem ixb_le (s : Str) (c : Int) : -1 ≤ ixb s c ∧ ixb s c ≤ s.length := by
  have := idxB_le c.toNat.toUInt8 s 0
  simpa [ixb] using this

theorem walk357 (s : Str) (c : Int) : PCon Tryz.prog 357 [.str s, .int .u8 c] (.d (.int .i64 (ixb s c))) := by
  refine ok357.pcon (Nat.le_of_ble_eq_true rfl) trivial ?_
  simp only [go_sem, ir357, Nat.reduceAdd, Nat.reduceEqDiff, Nat.reduceBEq, Nat.reduceLeDiff, reduceCtorEq, ↓reduceIte]
  refine wps_call rfl (ext370 s c) trivial ?_
  simp only [go_sem, Nat.reduceAdd, Nat.reduceEqDiff, Nat.reduceBEq, Nat.reduceLeDiff, reduceCtorEq, ↓reduceIte, ixb]

theorem walk320 (s : Str) (c : Int) : PCon Tryz.prog 320 [.str s, .int .u8 c] (.d (.int .i64 (ixb s c))) := by
  refine ok320.pcon (Nat.le_of_ble_eq_true rfl) trivial ?_
  simp only [go_sem, ir320, Nat.reduceAdd, Nat.reduceEqDiff, Nat.reduceBEq, Nat.reduceLeDiff, reduceCtorEq, ↓reduceIte]
  refine wps_call rfl ((walk357 s c).call trivial) trivial ?_
  simp only [go_sem, Nat.reduceAdd, Nat.reduceEqDiff, Nat.reduceBEq, Nat.reduceLeDiff, reduceCtorEq, ↓reduceIte]

def validR (r : Int) : Bool := (decide (0 ≤ r) && decide (r < 55296)) || (decide (57343 < r) && decide (r ≤ 1114111))

theorem walk321 (r : Int) : PCon Tryz.prog 321 [.int .i32 r] (.d (.bool (validR r))) := by
  refine ok321.pcon (Nat.le_of_ble_eq_true rfl) trivial ?_
  simp only [go_sem, ir321, Nat.reduceAdd, Nat.reduceEqDiff, Nat.reduceBEq, Nat.reduceLeDiff, reduceCtorEq, ↓reduceIte]
  refine scQ_pure (decide (r < 55296)) (fun _ => ?_) ?_
  all_goals simp only [go_sem, Nat.reduceAdd, Nat.reduceEqDiff, Nat.reduceBEq, Nat.reduceLeDiff, reduceCtorEq, ↓reduceIte]
  refine ⟨fun h => ?_, fun h => ?_⟩
  · simp only [validR, h, Bool.true_or]
  refine scQ_pure (decide (r ≤ 1114111)) (fun _ => ?_) ?_
  all_goals simp only [go_sem, Nat.reduceAdd, Nat.reduceEqDiff, Nat.reduceBEq, Nat.reduceLeDiff, reduceCtorEq, ↓reduceIte]
  refine ⟨fun h2 => ?_, fun h2 => ?_⟩
  · simp only [validR, h, h2, Bool.false_or]
  · simp only [validR, h, h2, Bool.false_or]

def sgn3 : Str := [46, 91, 63]

theorem tbl_one {P : Program} {X : Ext} (hX : ExtOK P X) {f : Nat} {ds : List Dat} {v : Av} (h : tblOK P X [(f, ds, v)] = true) : PCon P f ds v := by
  rw [tblOK, tblOK, Bool.and_true] at h
  cases ev : evF P false (callF P X K1 500 40) 500 f (ds.map .d) [] with
  | none => rw [ev] at h; cases h
  | some y =>
    obtain ⟨u, fh⟩ := y
    rw [ev] at h
    simp only [Bool.and_eq_true] at h
    obtain ⟨hp, he⟩ := h
    obtain rfl := avEq_eq he
    exact ev_pcon (X := X) (K := K1) (L := 500) (n := 40) hX ev hp

theorem rune_err : PCon Tryz.prog 271 [.str sgn3, .int .i32 65533] (.d (.int .i64 (-1))) := tbl_one X1_ok (by kernel_rfl)
def as3 : List Bool := (List.range 256).map fun k => k == 46 || k == 91 || k == 63
theorem set3 : PCon Tryz.prog 273 [.str sgn3] (.tup [.d (.agg (as3.map .bool)), .d (.bool true)]) := tbl_one X1_ok (by kernel_rfl)

theorem enc_last {r : Int} (hv : Utf8.valid r = true) (h : 128 ≤ r) : ∃ l : Str, ∃ c : UInt8, (Utf8.encode r).data.toList = l ++ [c] ∧ 128 ≤ c.toNat ∧ 1 ≤ l.length ∧ l.length ≤ 3 := by
  have hc : ¬ r.toNat < 128 := by omega
  unfold Utf8.encode
  simp only [hv, if_true, hc, if_false]
  split
  · exact ⟨[_], _, rfl, by simp; omega, by simp, by simp⟩
  · split
    · exact ⟨[_, _], _, rfl, by simp; omega, by simp, by simp⟩
    · exact ⟨[_, _, _], _, rfl, by simp; omega, by simp, by simp⟩

theorem walk271 (r : Int) : ∃ n : Int, PCon Tryz.prog 271 [.str sgn3, .int .i32 r] (.d (.int .i64 n)) ∧ -1 ≤ n ∧ n ≤ 3 := by
  by_cases h0 : (0 ≤ r ∧ r < 128)
  · refine ⟨ixb sgn3 (IntKind.u8.wrap r), ?_, (ixb_le _ _).1, (ixb_le _ _).2⟩
    refine ok271.pcon (Nat.le_of_ble_eq_true rfl) trivial ?_
    have e1 : decide (0 ≤ r) = true := decide_eq_true h0.1
    have e2 : decide (r < 128) = true := decide_eq_true h0.2
    simp only [go_sem, ir271, e1, e2, Nat.reduceAdd, Nat.reduceEqDiff, Nat.reduceBEq, Nat.reduceLeDiff, reduceCtorEq, ↓reduceIte]
    refine wps_call rfl ((walk320 _ _).call trivial) trivial ?_
    simp only [go_sem, Nat.reduceAdd, Nat.reduceEqDiff, Nat.reduceBEq, Nat.reduceLeDiff, reduceCtorEq, ↓reduceIte]
  by_cases h1 : r = 65533
  · subst h1
    exact ⟨-1, rune_err, by omega, by omega⟩
  refine ⟨-1, ?_, by omega, by omega⟩
  refine ok271.pcon (Nat.le_of_ble_eq_true rfl) trivial ?_
  simp only [go_sem, ir271, Nat.reduceAdd, Nat.reduceEqDiff, Nat.reduceBEq, Nat.reduceLeDiff, reduceCtorEq, ↓reduceIte]
  refine scQ_pure (decide (r < 128)) (fun _ => ?_) ?_
  all_goals simp only [go_sem, Nat.reduceAdd, Nat.reduceEqDiff, Nat.reduceBEq, Nat.reduceLeDiff, reduceCtorEq, ↓reduceIte]
  have e0 : (decide (0 ≤ r) && decide (r < 128)) = false := by simp; omega
  have e1 : (r == 65533) = false := by simpa using h1
  simp only [go_sem, e0, e1, Nat.reduceAdd, Nat.reduceEqDiff, Nat.reduceBEq, Nat.reduceLeDiff, reduceCtorEq, ↓reduceIte]
  refine wps_call rfl ((walk321 r).call trivial) trivial ?_
  simp only [go_sem, Nat.reduceAdd, Nat.reduceEqDiff, Nat.reduceBEq, Nat.reduceLeDiff, reduceCtorEq, ↓reduceIte]
  refine ⟨fun hv => ?_, fun hv => ?_⟩
  · trivial
  have hval : Utf8.valid r = true := by
    simp only [Bool.not_eq_false'] at hv
    simp only [validR, Bool.or_eq_true, Bool.and_eq_true, decide_eq_true_eq] at hv
    simp only [Utf8.valid, Bool.and_eq_true, Bool.or_eq_true, decide_eq_true_eq, Bool.not_eq_true', decide_eq_false_iff_not]
    omega
  have hr128 : 128 ≤ r := by
    simp only [Bool.not_eq_false'] at hv
    simp only [validR, Bool.or_eq_true, Bool.and_eq_true, decide_eq_true_eq] at hv
    omega
  obtain ⟨l, c, he, hc1, hl1, hl2⟩ := enc_last hval hr128
  rw [he]
  have hw : IntKind.i64.wrap (((l ++ [c]).length : Int) - 1) = (l.length : Int) := by
    rw [List.length_append, List.length_singleton]
    rw [wrap64 (by omega) (by omega)]; omega
  rw [hw]
  have hnx : ∀ t : Str, (∀ b ∈ t, b.toNat < 128) → ixb t (c.toNat : Int) = -1 := by
    intro t ht
    have hk : ∀ (t : Str) k, (∀ b ∈ t, b.toNat < 128) → idxB t c k = -1 := by
      intro t
      induction t with
      | nil => intro k _; rfl
      | cons b t ih =>
        intro k ht
        have hb := ht b List.mem_cons_self
        have hne : (b == c) = false := by
          rw [beq_eq_false_iff_ne]; rintro rfl; omega
        rw [idxB, hne]
        exact ih (k + 1) fun b hb => ht b (List.mem_cons_of_mem _ hb)
    have e : (c.toNat : Int).toNat.toUInt8 = c := by simp
    rw [ixb, e]
    exact hk t 0 ht
  have hg : ((l ++ [c]).getD l.length 0) = c := by simp
  refine wpc_loop (fun n s => n = 0 ∧ s = ⟨[(0, .d (.str sgn3)), (7, .d (.str (l ++ [c]))), (8, .d (.int .i64 l.length)), (9, .d (.int .i64 l.length))], []⟩) ⟨0, _, Wk.refl _, rfl, rfl⟩ ?_
  rintro n s ⟨rfl, rfl⟩
  have k1 : ((1 : Nat) : Int) = 1 := rfl
  have k2 : ((3 : Nat) : Int) = 3 := rfl
  have k3 : ((2 : Nat) : Int) = 2 := rfl
  rcases (by omega : l.length = 1 ∨ l.length = 2 ∨ l.length = 3) with h | h | h
  · rw [h] at hg ⊢
    have hlen : (l ++ [c]).length = 2 := by simp [h]
    have t1 : Int.toNat 1 = 1 := rfl
    simp only [go_sem, sgn3, hlen, hg, k1, k2, k3, t1, List.length_cons, List.length_nil, Nat.reduceAdd, Nat.reduceEqDiff, Nat.reduceBEq, Nat.reduceLeDiff, reduceCtorEq, ↓reduceIte]
    refine ⟨fun _ => ⟨⟨by decide, by decide⟩, ⟨by decide, by decide⟩, fun _ => ⟨⟨by decide, by decide, by decide⟩, ⟨by decide, by decide⟩, ?_⟩, fun hne => ?_⟩, fun h => by simp at h⟩
    · refine wps_call rfl ((walk320 _ _).call trivial) trivial ?_
      rw [hnx _ (by decide)]
      simp only [go_sem, Nat.reduceAdd, Nat.reduceEqDiff, Nat.reduceBEq, Nat.reduceLeDiff, reduceCtorEq, ↓reduceIte]
      refine ⟨fun _ => ?_, fun h => by simp at h⟩
      trivial
    · exfalso
      simp only [bne_eq_false_iff_eq, Int.ofNat_inj] at hne
      have : UInt8.toNat 91 < 128 := by decide
      omega
  · rw [h] at hg ⊢
    have hlen : (l ++ [c]).length = 3 := by simp [h]
    have t1 : Int.toNat 2 = 2 := rfl
    simp only [go_sem, sgn3, hlen, hg, k1, k2, k3, t1, List.length_cons, List.length_nil, Nat.reduceAdd, Nat.reduceEqDiff, Nat.reduceBEq, Nat.reduceLeDiff, reduceCtorEq, ↓reduceIte]
    refine ⟨fun _ => ⟨⟨by decide, by decide⟩, ⟨by decide, by decide⟩, fun _ => ⟨⟨by decide, by decide, by decide⟩, ⟨by decide, by decide⟩, ?_⟩, fun hne => ?_⟩, fun h => by simp at h⟩
    · refine wps_call rfl ((walk320 _ _).call trivial) trivial ?_
      rw [hnx _ (by decide)]
      simp only [go_sem, Nat.reduceAdd, Nat.reduceEqDiff, Nat.reduceBEq, Nat.reduceLeDiff, reduceCtorEq, ↓reduceIte]
      refine ⟨fun _ => ?_, fun h => by simp at h⟩
      trivial
    · exfalso
      simp only [bne_eq_false_iff_eq, Int.ofNat_inj] at hne
      have : UInt8.toNat 63 < 128 := by decide
      omega
  · rw [h] at hg ⊢
    have hlen : (l ++ [c]).length = 4 := by simp [h]
    simp only [go_sem, sgn3, hlen, hg, k1, k2, k3, List.length_cons, List.length_nil, Nat.reduceAdd, Nat.reduceEqDiff, Nat.reduceBEq, Nat.reduceLeDiff, reduceCtorEq, ↓reduceIte]
    refine ⟨fun h => by simp at h, fun _ => ?_⟩
    trivial

theorem walk272 (n : Int) : PCon Tryz.prog 272 [.int .i64 n] (.d (.bool (decide (n > 8)))) := by
  refine ok272.pcon (Nat.le_of_ble_eq_true rfl) trivial ?_
  simp only [go_sem, ir272, Nat.reduceAdd, Nat.reduceEqDiff, Nat.reduceBEq, Nat.reduceLeDiff, reduceCtorEq, ↓reduceIte]

theorem idsInL_d {G : Nat → Option Av.Obj} : ∀ cs : List Dat, idsInL G (cs.map .d)
  | [] => trivial
  | _ :: r => ⟨trivial, idsInL_d r⟩
theorem renL_d (ρ : Nat → Nat) : ∀ cs : List Dat, renL ρ (cs.map .d) = cs.map .d
  | [] => rfl
  | _ :: r => by simp only [List.map_cons, renL, Av.ren, renL_d ρ r]
theorem closed_box (i : Nat) (cs : List Dat) : closed (get [(i, .box (cs.map .d))]) := by
  refine closed_of ?_
  simp only [closedH, objIn, idsInL_d, and_true]

/-- a call that only reads a variable of the caller's -/
theorem Con.ro {P : Program} {f : Nat} {ds cs : List Dat} {r : Dat} (h : Con P f (.ref 1000 0 :: ds.map .d) [(1000, .box (cs.map .d))] (.d r) []) (i : Nat) :
    CallOK P f (.ref i 0 :: ds.map .d) [(i, some (.box (cs.map .d)))] (.d r) [] := by
  have h1 : ∀ j, (get [(1000, Obj.box (cs.map .d))] j).isSome = true → j = 1000 := by
    intro j hj
    simp only [Av.get] at hj
    split at hj
    · rename_i e; exact e.symm
    · cases hj
  have := h.call (fun _ => i) (fun j hj => by rw [h1 j hj]; decide) (fun a b ha hb _ => by rw [h1 a ha, h1 b hb]) ?_ (closed_box _ _) [] (by simp) (closed_box _ _) trivial
  · have e : (ds.map Av.d).map (Av.ren fun _ => i) = ds.map Av.d := by
      rw [List.map_map]; exact List.map_congr_left fun x _ => by simp [Av.ren]
    simpa [Av.ren, Obj.ren, renL_d, e] using this
  · intro c hc
    rcases List.mem_cons.1 hc with rfl | hc
    · rfl
    · obtain ⟨x, _, rfl⟩ := List.mem_map.1 hc; trivial

theorem walk274 (bs : List Bool) (c : Nat) (hb : bs.length = 256) (hc : c < 256) :
    Con Tryz.prog 274 (.ref 1000 0 :: [Dat.int .u8 c].map .d) [(1000, .box ((bs.map .bool).map .d))] (.d (.bool (bs.getD c false))) [] := by
  refine ok274.con (k := false) (Nat.le_of_ble_eq_true rfl) (closed_box _ _) trivial ?_
  have hx : ((bs.map Dat.bool).map Av.d)[c * 1]? = some (.d (.bool (bs.getD c false))) := by simp [List.getElem?_map, List.getD_eq_getElem?_getD, hb, hc]
  simp only [List.map_cons, List.map_nil]
  simp only [go_sem, ir274, Int.toNat_natCast, hx, Nat.reduceAdd, Nat.reduceEqDiff, Nat.reduceBEq, Nat.reduceLeDiff, reduceCtorEq, ↓reduceIte]
  omega
end Go.Proofs
/- strings.IndexAny at the three signs that part a path. -/
set_option linter.unusedSimpArgs false
set_option linter.unusedVariables false
set_option maxRecDepth 10000
namespace Go.Proofs
open Go Av

noncomputable def rn (r : Int) : Int := Classical.choose (walk271 r)
theorem walk271' (r : Int) : PCon Tryz.prog 271 [.str sgn3, .int .i32 r] (.d (.int .i64 (rn r))) := (Classical.choose_spec (walk271 r)).1

theorem decode_pos (s : ByteArray) (i : Nat) : 1 ≤ (Utf8.decode s i).2 := by
  unfold Utf8.decode
  dsimp only
  repeat' split
  all_goals simp

noncomputable def rnR (s : Str) : Nat → Nat → Int
  | 0, _ => -1
  | f + 1, p => if p < s.length then (if 0 ≤ rn (Utf8.decode ⟨s.toArray⟩ p).1 then (p : Int) else rnR s f (p + (Utf8.decode ⟨s.toArray⟩ p).2)) else -1
theorem rnR_bd (s : Str) : ∀ f p, -1 ≤ rnR s f p ∧ rnR s f p < s.length
  | 0, p => by simp only [rnR]; omega
  | f + 1, p => by
    have := rnR_bd s f (p + (Utf8.decode ⟨s.toArray⟩ p).2)
    simp only [rnR]
    split
    · split
      · omega
      · exact this
    · omega

def fst3 (s : Str) : Int := match s.findIdx? (fun c => as3.getD c.toNat false) with
  | some k => (k : Int)
  | none => -1
theorem fst3_bd (s : Str) : -1 ≤ fst3 s ∧ fst3 s < s.length := by
  unfold fst3
  split
  · rename_i k h
    have := (List.findIdx?_eq_some_iff_getElem.1 h).1
    omega
  · omega

noncomputable def anyI (s : Str) : Int := if (s.length : Int) > 8 then fst3 s else rnR s (s.length + 1) 0
theorem anyI_bd (s : Str) : -1 ≤ anyI s ∧ anyI s < s.length := by
  unfold anyI
  split
  · exact fst3_bd s
  · exact rnR_bd _ _ _

theorem as3_len : as3.length = 256 := by decide
theorem splice_all {α : Type} (cs new : List α) (h : new.length = cs.length) : splice cs 0 new = new := by simp [splice, h]

theorem walk219 (s : Str) (hs : s.length ≤ 68719476736) : PCon Tryz.prog 219 [.str s, .str sgn3] (.d (.int .i64 (anyI s))) := by
  refine ok219.pcon (Nat.le_of_ble_eq_true rfl) trivial ?_
  have e1 : (sgn3 == ([] : Str)) = false := by decide
  have e2 : (((sgn3.length : Nat) : Int) == 1) = false := by decide
  simp only [go_sem, ir219, e1, e2, Nat.reduceAdd, Nat.reduceEqDiff, Nat.reduceBEq, Nat.reduceLeDiff, reduceCtorEq, ↓reduceIte]
  refine wps_call rfl ((walk272 _).call trivial) trivial ?_
  simp only [go_sem, Nat.reduceAdd, Nat.reduceEqDiff, Nat.reduceBEq, Nat.reduceLeDiff, reduceCtorEq, ↓reduceIte]
  refine ⟨fun h8 => ?_, fun h8 => ?_⟩
  · have ha : anyI s = fst3 s := by simp only [decide_eq_true_eq] at h8; unfold anyI; rw [if_pos h8]
    rw [ha]
    refine wps_call rfl (set3.call (by simp [pureR])) trivial ?_
    have hl : (List.map Av.d (List.map Dat.bool as3)).length = 256 := by simp [as3_len]
    simp only [go_sem, hl, List.length_cons, List.length_nil, Nat.reduceAdd, Nat.reduceEqDiff, Nat.reduceBEq, Nat.reduceLeDiff, reduceCtorEq, ↓reduceIte, Nat.le_refl, and_self]
    refine wpc_loop (fun n st => ∃ k : Nat, k ≤ s.length ∧ n = s.length - k ∧ (∀ (j : Nat) (h : j < s.length), j < k → as3.getD s[j].toNat false = false) ∧
      st = ⟨[(0, .d (.str s)), (6, .ref 6 0), (8, .d (.int .i64 k))], [(6, .box ((as3.map .bool).map .d))]⟩) ?_ ?_
    · exact ⟨_, _, Wk.refl _, 0, Nat.zero_le _, rfl, by simp, rfl⟩
    · rintro n st ⟨k, hk, rfl, hinv, rfl⟩
      by_cases hlt : k < s.length
      · have hd : decide ((k : Int) < (s.length : Int)) = true := by simp; omega
        have hg : s.getD k 0 = s[k] := by simp [List.getD_eq_getElem?_getD, hlt]
        simp only [go_sem, hd, hg, Int.toNat_natCast, Nat.reduceAdd, Nat.reduceEqDiff, Nat.reduceBEq, Nat.reduceLeDiff, reduceCtorEq, ↓reduceIte]
        have hc := Con.ro (walk274 as3 s[k].toNat as3_len (UInt8.toNat_lt _)) 6
        refine ⟨by omega, wps_call rfl hc ⟨rfl, trivial⟩ ?_⟩
        simp only [go_sem, Nat.reduceAdd, Nat.reduceEqDiff, Nat.reduceBEq, Nat.reduceLeDiff, reduceCtorEq, ↓reduceIte]
        refine ⟨fun hf => ?_, fun hf => ?_⟩
        · have : s.findIdx? (fun c => as3.getD c.toNat false) = some k := by
            rw [List.findIdx?_eq_some_iff_getElem]
            exact ⟨hlt, hf, fun j hj => by rw [hinv j (by omega) hj]; decide⟩
          simp only [fst3, this]
        · refine ⟨s.length - (k + 1), _, by omega, Wk.less ?_, k + 1, by omega, rfl, ?_, rfl⟩
          · simp only [go_sem, wrap64s k (by omega), idsInL_d, Nat.reduceAdd, Nat.reduceEqDiff, Nat.reduceBEq, Nat.reduceLeDiff, reduceCtorEq, ↓reduceIte]
          · intro j h hj
            by_cases e : j = k
            · subst e; exact hf
            · exact hinv j h (by omega)
      · have hd : decide ((k : Int) < (s.length : Int)) = false := by simp; omega
        simp only [go_sem, hd, Nat.reduceAdd, Nat.reduceEqDiff, Nat.reduceBEq, Nat.reduceLeDiff, reduceCtorEq, ↓reduceIte]
        have : s.findIdx? (fun c => as3.getD c.toNat false) = none := by
          rw [List.findIdx?_eq_none_iff]
          intro x hx
          obtain ⟨j, hj, rfl⟩ := List.getElem_of_mem hx
          exact hinv j hj (by omega)
        simp only [fst3, this]
  · have ha : anyI s = rnR s (s.length + 1) 0 := by simp only [decide_eq_false_iff_not] at h8; unfold anyI; rw [if_neg h8]
    rw [ha]
    generalize hR : rnR s (s.length + 1) 0 = R
    refine wpc_loop (fun n st => ∃ p : Nat, s.length < n + p ∧ R = rnR s n p ∧ st = ⟨[(1, .d (.str sgn3)), (45, .mp 45)], [(45, .sit s p)]⟩) ?_ ?_
    · exact ⟨s.length + 1, _, Wk.refl _, 0, by omega, hR.symm, rfl⟩
    · rintro n st ⟨p, hp, hr, rfl⟩
      by_cases hlt : p < s.length
      · obtain ⟨n, rfl⟩ : ∃ m, n = m + 1 := by
          cases n with
          | zero => omega
          | succ m => exact ⟨m, rfl⟩
        have hdp := decode_pos ⟨s.toArray⟩ p
        simp only [rnR, hlt, ↓reduceIte] at hr
        simp only [go_sem, hlt, Nat.reduceAdd, Nat.reduceEqDiff, Nat.reduceBEq, Nat.reduceLeDiff, reduceCtorEq, ↓reduceIte]
        refine wps_call rfl ((walk271' _).call trivial) trivial ?_
        simp only [go_sem, Nat.reduceAdd, Nat.reduceEqDiff, Nat.reduceBEq, Nat.reduceLeDiff, reduceCtorEq, ↓reduceIte]
        refine ⟨fun hf => ?_, fun hf => ?_⟩
        · simp only [decide_eq_true_eq] at hf
          have hf' : 0 ≤ rn (Utf8.decode ⟨s.toArray⟩ p).1 := hf
          rw [if_pos hf'] at hr
          rw [hr]
        · simp only [decide_eq_false_iff_not] at hf
          have hf' : ¬ 0 ≤ rn (Utf8.decode ⟨s.toArray⟩ p).1 := hf
          refine ⟨n, _, by omega, Wk.less ?_, p + (Utf8.decode ⟨s.toArray⟩ p).2, by omega, ?_, rfl⟩
          · simp only [go_sem, Nat.reduceAdd, Nat.reduceEqDiff, Nat.reduceBEq, Nat.reduceLeDiff, reduceCtorEq, ↓reduceIte]
          · rw [if_neg hf'] at hr
            exact hr
      · simp only [go_sem, hlt, Nat.reduceAdd, Nat.reduceEqDiff, Nat.reduceBEq, Nat.reduceLeDiff, reduceCtorEq, ↓reduceIte]
        have : rnR s n p = -1 := by
          cases n with
          | zero => rfl
          | succ n => simp [rnR, hlt]
        rw [hr, this]
end Go.Proofs
/- Names; prefixes; texts cut at a sign; valid parts of paths. -/
set_option linter.unusedSimpArgs false
set_option linter.unusedVariables false
set_option maxRecDepth 10000
namespace Go.Proofs
open Go Av

theorem walk275 (s p : Str) (hp : p.length ≤ 68719476736) : PCon Tryz.prog 275 [.str s, .str p] (.d (.bool (decide ((s.length : Int) ≥ p.length) && (s.take p.length == p)))) := by
  refine ok275.pcon (Nat.le_of_ble_eq_true rfl) trivial ?_
  simp only [go_sem, ir275, Nat.reduceAdd, Nat.reduceEqDiff, Nat.reduceBEq, Nat.reduceLeDiff, reduceCtorEq, ↓reduceIte]
  refine scQ_pure (s.take p.length == p) (fun h => ?_) ?_
  · simp only [decide_eq_true_eq] at h
    simp only [go_sem, Int.toNat_natCast, Int.toNat_zero, List.drop_zero, Nat.sub_zero, Nat.reduceAdd, Nat.reduceEqDiff, Nat.reduceBEq, Nat.reduceLeDiff, reduceCtorEq, ↓reduceIte]
    have e : ((p.length : Int) - 0).toNat = p.length := by omega
    rw [e]
    exact ⟨by omega, rfl⟩
  · simp only [go_sem, Nat.reduceAdd, Nat.reduceEqDiff, Nat.reduceBEq, Nat.reduceLeDiff, reduceCtorEq, ↓reduceIte]

def preS (s p : Str) : Bool := decide ((s.length : Int) ≥ p.length) && (s.take p.length == p)
theorem walk220 (s p : Str) (hp : p.length ≤ 68719476736) : PCon Tryz.prog 220 [.str s, .str p] (.d (.bool (preS s p))) := by
  refine ok220.pcon (Nat.le_of_ble_eq_true rfl) trivial ?_
  simp only [go_sem, ir220, Nat.reduceAdd, Nat.reduceEqDiff, Nat.reduceBEq, Nat.reduceLeDiff, reduceCtorEq, ↓reduceIte]
  refine wps_call rfl ((walk275 s p hp).call trivial) trivial ?_
  simp only [go_sem, preS, Nat.reduceAdd, Nat.reduceEqDiff, Nat.reduceBEq, Nat.reduceLeDiff, reduceCtorEq, ↓reduceIte]

theorem k1' : ((1 : Nat) : Int) = 1 := rfl
theorem l10 : ((1 : Int) == 0) = false := rfl
theorem l11 : ((1 : Int) == 1) = true := rfl
theorem t0' : Int.toNat 0 = 0 := rfl
theorem walk324 (s : Str) (c : UInt8) : PCon Tryz.prog 324 [.str s, .str [c]] (.d (.int .i64 (ixb s c.toNat))) := by
  refine ok324.pcon (Nat.le_of_ble_eq_true rfl) trivial ?_
  have e3 : (([c] : Str).getD 0 0) = c := rfl
  simp only [go_sem, ir324, k1', l10, l11, t0', e3, List.length_singleton, Nat.reduceAdd, Nat.reduceEqDiff, Nat.reduceBEq, Nat.reduceLeDiff, reduceCtorEq, ↓reduceIte]
  refine ⟨fun h => ?_, fun h => ⟨by decide, ?_⟩⟩
  · simp only [beq_iff_eq] at h
    subst h
    have : ixb [c] c.toNat = 0 := by simp [ixb, idxB]
    rw [this]
  · refine wps_call rfl ((walk357 _ _).call trivial) trivial ?_
    simp only [go_sem, Nat.reduceAdd, Nat.reduceEqDiff, Nat.reduceBEq, Nat.reduceLeDiff, reduceCtorEq, ↓reduceIte]

theorem ixb_lt (s : Str) (c : UInt8) : ixb s c.toNat < s.length := by
  have hk : ∀ (t : Str) k, idxB t c k < (t.length + k : Nat) ∨ idxB t c k = -1 := by
    intro t
    induction t with
    | nil => intro k; right; rfl
    | cons b t ih =>
      intro k
      rw [idxB]
      split
      · left; simp only [List.length_cons]; omega
      · rcases ih (k + 1) with h | h
        · left; simp only [List.length_cons]; omega
        · right; exact h
  have e : (c.toNat : Int).toNat.toUInt8 = c := by simp
  rw [ixb, e]
  rcases hk s 0 with h | h
  · simpa using h
  · omega

/-- a text cut at a sign -/
def cutS (s : Str) (c : UInt8) : Str × Str × Bool := if ixb s c.toNat ≥ 0 then (s.take (ixb s c.toNat).toNat, s.drop ((ixb s c.toNat).toNat + 1), true) else (s, [], false)

theorem walk276 (s : Str) (c : UInt8) (hs : s.length ≤ 68719476736) : PCon Tryz.prog 276 [.str s, .str [c]] (.tup [.d (.str (cutS s c).1), .d (.str (cutS s c).2.1), .d (.bool (cutS s c).2.2)]) := by
  refine ok276.pcon (Nat.le_of_ble_eq_true rfl) (by simp [inTR, idsIn, idsInL]) ?_
  simp only [go_sem, ir276, Nat.reduceAdd, Nat.reduceEqDiff, Nat.reduceBEq, Nat.reduceLeDiff, reduceCtorEq, ↓reduceIte]
  refine wps_call rfl ((walk324 s c).call trivial) trivial ?_
  simp only [go_sem, k1', List.length_singleton, Nat.reduceAdd, Nat.reduceEqDiff, Nat.reduceBEq, Nat.reduceLeDiff, reduceCtorEq, ↓reduceIte]
  have hlt := ixb_lt s c
  have hge := (ixb_le s c.toNat).1
  refine ⟨fun h => ?_, fun h => ?_⟩
  · simp only [decide_eq_true_eq] at h
    have hw : IntKind.i64.wrap (ixb s c.toNat + 1) = ixb s c.toNat + 1 := wrap64 (by omega) (by omega)
    simp only [hw]
    have e1 : s.take ((ixb s c.toNat) - 0).toNat = s.take (ixb s c.toNat).toNat := by rw [Int.sub_zero]
    have e2 : ((s.length : Int) - (ixb s c.toNat + 1)).toNat = (s.drop (ixb s c.toNat + 1).toNat).length := by rw [List.length_drop]; omega
    have e3 : (ixb s c.toNat + 1).toNat = (ixb s c.toNat).toNat + 1 := by omega
    have e4 : cutS s c = (s.take (ixb s c.toNat).toNat, s.drop ((ixb s c.toNat).toNat + 1), true) := by unfold cutS; rw [if_pos h]
    refine ⟨by omega, by omega, ?_⟩
    rw [t0', List.drop_zero, e1, e2, List.take_length, e3, e4]
  · simp only [decide_eq_false_iff_not] at h
    have : cutS s c = (s, [], false) := by unfold cutS; rw [if_neg h]
    rw [this]

theorem walk221 (s : Str) (c : UInt8) (hs : s.length ≤ 68719476736) : PCon Tryz.prog 221 [.str s, .str [c]] (.tup [.d (.str (cutS s c).1), .d (.str (cutS s c).2.1), .d (.bool (cutS s c).2.2)]) := by
  refine ok221.pcon (Nat.le_of_ble_eq_true rfl) (by simp [inTR, idsIn, idsInL]) ?_
  simp only [go_sem, ir221, Nat.reduceAdd, Nat.reduceEqDiff, Nat.reduceBEq, Nat.reduceLeDiff, reduceCtorEq, ↓reduceIte]
  refine wps_call rfl ((walk276 s c hs).call (by simp [pureR])) trivial ?_
  simp only [go_sem, Nat.reduceAdd, Nat.reduceEqDiff, Nat.reduceBEq, Nat.reduceLeDiff, reduceCtorEq, ↓reduceIte]

def nameC (c : UInt8) : Bool := !((decide ((c.toNat : Int) < 97) || decide ((c.toNat : Int) > 122)) && (decide ((c.toNat : Int) < 48) || decide ((c.toNat : Int) > 57)) && ((c.toNat : Int) != 95))
def nameS (s : Str) : Bool := !(s == [] || decide ((s.length : Int) > 32) || decide (((s.getD 0 0).toNat : Int) < 97) || decide (((s.getD 0 0).toNat : Int) > 122)) && s.all nameC

theorem walk112 (s : Str) (hs : s.length ≤ 68719476736) : PCon Tryz.prog 112 [.str s] (.d (.bool (nameS s))) := by
  refine ok112.pcon (Nat.le_of_ble_eq_true rfl) trivial ?_
  cases s with
  | nil =>
    simp only [go_sem, ir112, Nat.reduceAdd, Nat.reduceEqDiff, Nat.reduceBEq, Nat.reduceLeDiff, reduceCtorEq, ↓reduceIte]
    rfl
  | cons c t =>
    have e0 : ((c :: t : Str) == []) = false := rfl
    have e1 : (c :: t).getD 0 0 = c := rfl
    simp only [go_sem, ir112, e0, e1, t0', Nat.reduceAdd, Nat.reduceEqDiff, Nat.reduceBEq, Nat.reduceLeDiff, reduceCtorEq, ↓reduceIte]
    generalize hb : (c :: t : Str) = s at *
    have hl : 0 < s.length := by rw [← hb]; simp
    have hlen : (t.length + 1 : Nat) = s.length := by rw [← hb]; simp
    have hc0 : s.getD 0 0 = c := by rw [← hb]; rfl
    have e0' : (s == []) = false := by rw [← hb]; rfl
    rw [hlen]
    refine scQ_pure (decide ((c.toNat : Int) < 97)) (fun _ => ?_) ?_
    · simp only [go_sem, t0', hc0, Nat.reduceAdd, Nat.reduceEqDiff, Nat.reduceBEq, Nat.reduceLeDiff, reduceCtorEq, ↓reduceIte]
      omega
    simp only [go_sem, Nat.reduceAdd, Nat.reduceEqDiff, Nat.reduceBEq, Nat.reduceLeDiff, reduceCtorEq, ↓reduceIte]
    refine scQ_pure (decide ((c.toNat : Int) > 122)) (fun _ => ?_) ?_
    · simp only [go_sem, t0', hc0, Nat.reduceAdd, Nat.reduceEqDiff, Nat.reduceBEq, Nat.reduceLeDiff, reduceCtorEq, ↓reduceIte]
      omega
    simp only [go_sem, Nat.reduceAdd, Nat.reduceEqDiff, Nat.reduceBEq, Nat.reduceLeDiff, reduceCtorEq, ↓reduceIte]
    refine ⟨fun h => ?_, fun h => ?_⟩
    · have : nameS s = false := by unfold nameS; rw [e0', hc0, Bool.false_or, h]; rfl
      rw [this]
    have hn : nameS s = s.all nameC := by unfold nameS; rw [e0', hc0, Bool.false_or, h]; rfl
    rw [hn]
    simp only [go_sem, List.length_map, Nat.reduceAdd, Nat.reduceEqDiff, Nat.reduceBEq, Nat.reduceLeDiff, reduceCtorEq, ↓reduceIte]
    refine wpc_loop (fun n st => ∃ k : Nat, k ≤ s.length ∧ n = s.length - k ∧ s.all nameC = (s.drop k).all nameC ∧
      st = ⟨[(23, .d (.list 1 (s.map fun b => .int .u8 b.toNat))), (24, .d (.int .i64 s.length)), (25, .d (.int .i64 k))], []⟩) ?_ ?_
    · exact ⟨_, _, Wk.refl _, 0, Nat.zero_le _, rfl, rfl, rfl⟩
    · rintro n st ⟨k, hk, rfl, hinv, rfl⟩
      by_cases hlt : k < s.length
      · have hd : decide ((k : Int) < (s.length : Int)) = true := by simp; omega
        have hg : nth (s.map fun b => Dat.int .u8 b.toNat) k = .int .u8 s[k].toNat := by rw [nth_eq (by simpa using hlt)]; simp
        rw [List.drop_eq_getElem_cons hlt, List.all_cons] at hinv
        simp only [go_sem, hd, hg, Int.toNat_natCast, List.length_map, Nat.reduceAdd, Nat.reduceEqDiff, Nat.reduceBEq, Nat.reduceLeDiff, reduceCtorEq, ↓reduceIte]
        generalize hx : (s[k].toNat : Int) = x at *
        refine ⟨by omega, by omega, ?_⟩
        refine scQ_pure (decide (x > 122)) (fun _ => ?_) ?_
        · simp only [go_sem, Nat.reduceAdd, Nat.reduceEqDiff, Nat.reduceBEq, Nat.reduceLeDiff, reduceCtorEq, ↓reduceIte]
        simp only [go_sem, Nat.reduceAdd, Nat.reduceEqDiff, Nat.reduceBEq, Nat.reduceLeDiff, reduceCtorEq, ↓reduceIte]
        refine scQ_pure (decide (x < 48) || decide (x > 57)) (fun _ => ?_) ?_
        · simp only [go_sem, Nat.reduceAdd, Nat.reduceEqDiff, Nat.reduceBEq, Nat.reduceLeDiff, reduceCtorEq, ↓reduceIte]
          refine scQ_pure (decide (x > 57)) (fun _ => ?_) ?_
          · simp only [go_sem, Nat.reduceAdd, Nat.reduceEqDiff, Nat.reduceBEq, Nat.reduceLeDiff, reduceCtorEq, ↓reduceIte]
          simp only [go_sem, Nat.reduceAdd, Nat.reduceEqDiff, Nat.reduceBEq, Nat.reduceLeDiff, reduceCtorEq, ↓reduceIte]
        simp only [go_sem, Nat.reduceAdd, Nat.reduceEqDiff, Nat.reduceBEq, Nat.reduceLeDiff, reduceCtorEq, ↓reduceIte]
        refine scQ_pure (x != 95) (fun _ => ?_) ?_
        · simp only [go_sem, Nat.reduceAdd, Nat.reduceEqDiff, Nat.reduceBEq, Nat.reduceLeDiff, reduceCtorEq, ↓reduceIte]
        simp only [go_sem, Nat.reduceAdd, Nat.reduceEqDiff, Nat.reduceBEq, Nat.reduceLeDiff, reduceCtorEq, ↓reduceIte]
        have hcx : nameC s[k] = !((decide (x < 97) || decide (x > 122)) && (decide (x < 48) || decide (x > 57)) && (x != 95)) := by rw [← hx]; rfl
        refine ⟨fun hf => ?_, fun hf => ?_⟩
        · rw [hcx, hf, Bool.not_true, Bool.false_and] at hinv
          rw [hinv]
        · rw [hcx, hf, Bool.not_false, Bool.true_and] at hinv
          refine ⟨s.length - (k + 1), _, by omega, Wk.less ?_, k + 1, by omega, rfl, hinv, rfl⟩
          simp only [go_sem, wrap64s k (by omega), Nat.reduceAdd, Nat.reduceEqDiff, Nat.reduceBEq, Nat.reduceLeDiff, reduceCtorEq, ↓reduceIte]
      · have hd : decide ((k : Int) < (s.length : Int)) = false := by simp; omega
        obtain rfl : k = s.length := by omega
        rw [List.drop_length, List.all_nil] at hinv
        simp only [go_sem, hd, hinv, Nat.reduceAdd, Nat.reduceEqDiff, Nat.reduceBEq, Nat.reduceLeDiff, reduceCtorEq, ↓reduceIte]

structure Part where
  kind : Int
  index : Int
  name : Str
def encP (p : Part) : Dat := .agg [.int .i64 p.kind, .int .i64 p.index, .str p.name]
def validP (p : Part) : Bool :=
  if p.kind = 1 ∨ p.kind = 4 then (p.index == 0) && nameS p.name else if p.kind = 2 then (p.name == []) && decide (p.index ≥ 0) && decide (p.index < 256) else if p.kind = 3 then (p.name == []) && (p.index == 0) else false

theorem walk148 (p : Part) (hp : p.name.length ≤ 68719476736) : PCon Tryz.prog 148 [encP p] (.d (.bool (validP p))) := by
  refine ok148.pcon (Nat.le_of_ble_eq_true rfl) trivial ?_
  obtain ⟨k, i, n⟩ := p
  simp only at hp
  simp only [encP]
  by_cases h1 : k = 1 ∨ k = 4
  · have hv : validP ⟨k, i, n⟩ = ((i == 0) && nameS n) := by unfold validP; rw [if_pos h1]
    rw [hv]
    rcases h1 with rfl | rfl
    · simp only [go_sem, ir148, beq_self_eq_true, Nat.reduceAdd, Nat.reduceEqDiff, Nat.reduceBEq, Nat.reduceLeDiff, reduceCtorEq, ↓reduceIte]
      refine scQ_pure (nameS n) (fun _ => ?_) ?_
      · simp only [go_sem, Nat.reduceAdd, Nat.reduceEqDiff, Nat.reduceBEq, Nat.reduceLeDiff, reduceCtorEq, ↓reduceIte]
        refine wps_call rfl ((walk112 n hp).call trivial) trivial ?_
        simp only [go_sem, Nat.reduceAdd, Nat.reduceEqDiff, Nat.reduceBEq, Nat.reduceLeDiff, reduceCtorEq, ↓reduceIte]
      · simp only [go_sem, Nat.reduceAdd, Nat.reduceEqDiff, Nat.reduceBEq, Nat.reduceLeDiff, reduceCtorEq, ↓reduceIte]
    · have q1 : ((4 : Int) == 1) = false := rfl
      simp only [go_sem, ir148, q1, beq_self_eq_true, Nat.reduceAdd, Nat.reduceEqDiff, Nat.reduceBEq, Nat.reduceLeDiff, reduceCtorEq, ↓reduceIte]
      refine scQ_pure (nameS n) (fun _ => ?_) ?_
      · simp only [go_sem, Nat.reduceAdd, Nat.reduceEqDiff, Nat.reduceBEq, Nat.reduceLeDiff, reduceCtorEq, ↓reduceIte]
        refine wps_call rfl ((walk112 n hp).call trivial) trivial ?_
        simp only [go_sem, Nat.reduceAdd, Nat.reduceEqDiff, Nat.reduceBEq, Nat.reduceLeDiff, reduceCtorEq, ↓reduceIte]
      · simp only [go_sem, Nat.reduceAdd, Nat.reduceEqDiff, Nat.reduceBEq, Nat.reduceLeDiff, reduceCtorEq, ↓reduceIte]
  · have q1 : (k == 1) = false := by simp; omega
    have q4 : (k == 4) = false := by simp; omega
    by_cases h2 : k = 2
    · subst h2
      have hv : validP ⟨2, i, n⟩ = ((n == []) && decide (i ≥ 0) && decide (i < 256)) := by unfold validP; rw [if_neg h1, if_pos rfl]
      rw [hv]
      simp only [go_sem, ir148, q1, q4, beq_self_eq_true, Nat.reduceAdd, Nat.reduceEqDiff, Nat.reduceBEq, Nat.reduceLeDiff, reduceCtorEq, ↓reduceIte]
      refine scQ_pure (decide (i ≥ 0)) (fun _ => ?_) ?_
      · simp only [go_sem, Nat.reduceAdd, Nat.reduceEqDiff, Nat.reduceBEq, Nat.reduceLeDiff, reduceCtorEq, ↓reduceIte]
      simp only [go_sem, Nat.reduceAdd, Nat.reduceEqDiff, Nat.reduceBEq, Nat.reduceLeDiff, reduceCtorEq, ↓reduceIte]
      refine scQ_pure (decide (i < 256)) (fun _ => ?_) ?_
      · simp only [go_sem, Nat.reduceAdd, Nat.reduceEqDiff, Nat.reduceBEq, Nat.reduceLeDiff, reduceCtorEq, ↓reduceIte]
      simp only [go_sem, Nat.reduceAdd, Nat.reduceEqDiff, Nat.reduceBEq, Nat.reduceLeDiff, reduceCtorEq, ↓reduceIte]
    · have q2 : (k == 2) = false := by simp; omega
      by_cases h3 : k = 3
      · subst h3
        have hv : validP ⟨3, i, n⟩ = ((n == []) && (i == 0)) := by unfold validP; rw [if_neg h1, if_neg h2, if_pos rfl]
        rw [hv]
        simp only [go_sem, ir148, q1, q2, q4, beq_self_eq_true, Nat.reduceAdd, Nat.reduceEqDiff, Nat.reduceBEq, Nat.reduceLeDiff, reduceCtorEq, ↓reduceIte]
        refine scQ_pure (i == 0) (fun _ => ?_) ?_
        · simp only [go_sem, Nat.reduceAdd, Nat.reduceEqDiff, Nat.reduceBEq, Nat.reduceLeDiff, reduceCtorEq, ↓reduceIte]
        simp only [go_sem, Nat.reduceAdd, Nat.reduceEqDiff, Nat.reduceBEq, Nat.reduceLeDiff, reduceCtorEq, ↓reduceIte]
      · have q3 : (k == 3) = false := by simp; omega
        have hv : validP ⟨k, i, n⟩ = false := by unfold validP; rw [if_neg h1, if_neg h2, if_neg h3]
        rw [hv]
        simp only [go_sem, ir148, q1, q2, q3, q4, Nat.reduceAdd, Nat.reduceEqDiff, Nat.reduceBEq, Nat.reduceLeDiff, reduceCtorEq, ↓reduceIte]
end Go.Proofs
