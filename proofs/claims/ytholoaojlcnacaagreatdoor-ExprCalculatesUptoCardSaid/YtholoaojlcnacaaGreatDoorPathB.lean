/-
  DERIVED: THE SHELF's CONTRACTS AT THIS DUMP, IN PLAIN WORDS (tools/lay-plain.mjs out of 'TSh.lean', which tools/lay-shelf.mjs wrote): THE SAME DECLARATIONS UNDER THE SAME NAMES: 'import', 'namespace', 'open', 'def', 'theorem' AND NOTHING ELSE: no command of the shelf's: FOR A HAND-IN. Each laying: the table of numbers ('.._ren') and one theorem, a field a fact of the dump's own or the kernel's comparison; each contract: ONE APPLICATION.
-/
import Derived.Shelf.SlGeneric
import Derived.Shelf.LaysM
import Derived.Shelf.Strconv.Itoa3
import Derived.Shelf.LaysC
import Derived.Shelf.Strconv.AtoiAll
import Derived.Ground.Names2Prog
import Derived.Ground.SlgnProg
import Derived.Test.YtholoaojlcnacaaGreatDoorProg
import Derived.Test.YtholoaojlcnacaaGreatDoorPathA
import Derived.Test.YtholoaojlcnacaaGreatDoorAvD
import Derived.Lib.ItoaLen
set_option linter.unusedVariables false
set_option linter.unusedSimpArgs false
set_option linter.unusedSectionVars false
namespace Go.Proofs
open Go.Shelf
def Tryz.laysM171_ren : Go.Shelf.Ren := ⟨fun | 171 => 96 | 243 => 162 | 246 => 226 | 283 => 280 | 284 => 281 | 285 => 282 | 286 => 283 | 129 => 208 | 317 => 331 | 318 => 332 | 319 => 333 | 320 => 334 | 337 => 362 | 338 => 363 | n => n, fun | 3 => 3 | 9 => 9 | 2 => 2 | 4 => 4 | 171 => 304 | 0 => 0 | 53 => 248 | 37 => 215 | 5 => 5 | 173 => 306 | 212 => 349 | 51 => 246 | 20 => 20 | 213 => 350 | 46 => 189 | 232 => 384 | 233 => 385 | n => n, fun | 17 => 3 | 18 => 6 | 19 => 7 | n => n⟩
theorem Tryz.laysM171 : Go.Proofs.LaysM.n171 Tryz.prog Tryz.laysM171_ren := {
  mixed := by kernel_rfl
  f129 := Tryz.func208.trans (congrArg some (by kernel_rfl))
  f171 := Tryz.func96.trans (congrArg some (by kernel_rfl))
  f243 := Tryz.func162.trans (congrArg some (by kernel_rfl))
  f246 := Tryz.func226.trans (congrArg some (by kernel_rfl))
  f283 := Tryz.func280.trans (congrArg some (by kernel_rfl))
  f284 := Tryz.func281.trans (congrArg some (by kernel_rfl))
  f285 := Tryz.func282.trans (congrArg some (by kernel_rfl))
  f286 := Tryz.func283.trans (congrArg some (by kernel_rfl))
  f317 := Tryz.func331.trans (congrArg some (by kernel_rfl))
  f318 := Tryz.func332.trans (congrArg some (by kernel_rfl))
  f319 := Tryz.func333.trans (congrArg some (by kernel_rfl))
  f320 := Tryz.func334.trans (congrArg some (by kernel_rfl))
  f337 := Tryz.func362.trans (congrArg some (by kernel_rfl))
  f338 := Tryz.func363.trans (congrArg some (by kernel_rfl))
  t0 := Tryz.underlying0
  a0 := Tryz.isAgg0
  z0 := Tryz.sizeOf0
  v0 := Tryz.zeroValue0
  t2 := Tryz.underlying2
  a2 := Tryz.isAgg2
  z2 := Tryz.sizeOf2
  v2 := Tryz.zeroValue2
  t3 := Tryz.underlying3
  a3 := Tryz.isAgg3
  z3 := Tryz.sizeOf3
  v3 := Tryz.zeroValue3
  t4 := Tryz.underlying4
  a4 := Tryz.isAgg4
  z4 := Tryz.sizeOf4
  v4 := Tryz.zeroValue4
  t5 := Tryz.underlying5
  a5 := Tryz.isAgg5
  z5 := Tryz.sizeOf5
  v5 := Tryz.zeroValue5
  t9 := Tryz.underlying9
  a9 := Tryz.isAgg9
  z9 := Tryz.sizeOf9
  v9 := Tryz.zeroValue9
  t20 := Tryz.underlying20
  a20 := Tryz.isAgg20
  z20 := Tryz.sizeOf20
  v20 := Tryz.zeroValue20
  t37 := Tryz.underlying215
  a37 := Tryz.isAgg215
  z37 := Tryz.sizeOf215
  v37 := Tryz.zeroValue215
  t46 := Tryz.underlying189
  a46 := Tryz.isAgg189
  z46 := Tryz.sizeOf189
  v46 := Tryz.zeroValue189
  t51 := Tryz.underlying246
  a51 := Tryz.isAgg246
  z51 := Tryz.sizeOf246
  v51 := Tryz.zeroValue246
  t53 := Tryz.underlying248
  a53 := Tryz.isAgg248
  z53 := Tryz.sizeOf248
  v53 := Tryz.zeroValue248
  t171 := Tryz.underlying304
  a171 := Tryz.isAgg304
  z171 := Tryz.sizeOf304
  v171 := Tryz.zeroValue304
  t173 := Tryz.underlying306
  a173 := Tryz.isAgg306
  z173 := Tryz.sizeOf306
  v173 := Tryz.zeroValue306
  t212 := Tryz.underlying349
  a212 := Tryz.isAgg349
  z212 := Tryz.sizeOf349
  v212 := Tryz.zeroValue349
  t213 := Tryz.underlying350
  a213 := Tryz.isAgg350
  z213 := Tryz.sizeOf350
  t232 := Tryz.underlying384
  a232 := Tryz.isAgg384
  z232 := Tryz.sizeOf384
  v232 := Tryz.zeroValue384
  t233 := Tryz.underlying385
  a233 := Tryz.isAgg385
  z233 := Tryz.sizeOf385
  v233 := Tryz.zeroValue385
  g17 := by kernel_rfl
  g18 := by kernel_rfl
  g19 := by kernel_rfl
  i0 := by kernel_rfl
  i2 := by kernel_rfl
  i3 := by kernel_rfl
  i4 := by kernel_rfl
  i5 := by kernel_rfl
  i9 := by kernel_rfl
  i20 := by kernel_rfl
  i37 := by kernel_rfl
  i46 := by kernel_rfl
  i51 := by kernel_rfl
  i53 := by kernel_rfl
  i171 := by kernel_rfl
  i173 := by kernel_rfl
  i212 := by kernel_rfl
  i232 := by kernel_rfl
  i233 := by kernel_rfl
  m17 := by kernel_rfl
  m18 := by kernel_rfl
  m19 := by kernel_rfl }
def Tryz.laysC172_ren : Go.Shelf.Ren := ⟨fun | 172 => 222 | 244 => 277 | 245 => 278 | 247 => 325 | 279 => 326 | 280 => 327 | 281 => 328 | 282 => 329 | 287 => 359 | 316 => 360 | 171 => 96 | 205 => 361 | 321 => 372 | 322 => 373 | 243 => 162 | 246 => 226 | 283 => 280 | 284 => 281 | 285 => 282 | 286 => 283 | 129 => 208 | 317 => 331 | 318 => 332 | 319 => 333 | 320 => 334 | 337 => 362 | 338 => 363 | n => n, fun | 9 => 9 | 3 => 3 | 75 => 257 | 76 => 258 | 4 => 4 | 5 => 5 | 167 => 341 | 37 => 215 | 0 => 0 | 85 => 342 | 2 => 2 | 168 => 344 | 53 => 248 | 175 => 365 | 46 => 189 | 210 => 368 | 127 => 312 | 145 => 383 | 143 => 381 | 21 => 21 | 171 => 304 | 173 => 306 | 212 => 349 | 51 => 246 | 20 => 20 | 213 => 350 | 232 => 384 | 233 => 385 | 80 => 271 | n => n, fun | 15 => 4 | 16 => 5 | 17 => 3 | 18 => 6 | 19 => 7 | n => n⟩
theorem Tryz.laysC172 : Go.Proofs.LaysC.n172 Tryz.prog Tryz.laysC172_ren := {
  mixed := by kernel_rfl
  f129 := Tryz.func208.trans (congrArg some (by kernel_rfl))
  f171 := Tryz.func96.trans (congrArg some (by kernel_rfl))
  f172 := Tryz.func222.trans (congrArg some (by kernel_rfl))
  f205 := Tryz.func361.trans (congrArg some (by kernel_rfl))
  f243 := Tryz.func162.trans (congrArg some (by kernel_rfl))
  f244 := Tryz.func277.trans (congrArg some (by kernel_rfl))
  f245 := Tryz.func278.trans (congrArg some (by kernel_rfl))
  f246 := Tryz.func226.trans (congrArg some (by kernel_rfl))
  f247 := Tryz.func325.trans (congrArg some (by kernel_rfl))
  f279 := Tryz.func326.trans (congrArg some (by kernel_rfl))
  f280 := Tryz.func327.trans (congrArg some (by kernel_rfl))
  f281 := Tryz.func328.trans (congrArg some (by kernel_rfl))
  f282 := Tryz.func329.trans (congrArg some (by kernel_rfl))
  f283 := Tryz.func280.trans (congrArg some (by kernel_rfl))
  f284 := Tryz.func281.trans (congrArg some (by kernel_rfl))
  f285 := Tryz.func282.trans (congrArg some (by kernel_rfl))
  f286 := Tryz.func283.trans (congrArg some (by kernel_rfl))
  f287 := Tryz.func359.trans (congrArg some (by kernel_rfl))
  f316 := Tryz.func360.trans (congrArg some (by kernel_rfl))
  f317 := Tryz.func331.trans (congrArg some (by kernel_rfl))
  f318 := Tryz.func332.trans (congrArg some (by kernel_rfl))
  f319 := Tryz.func333.trans (congrArg some (by kernel_rfl))
  f320 := Tryz.func334.trans (congrArg some (by kernel_rfl))
  f321 := Tryz.func372.trans (congrArg some (by kernel_rfl))
  f322 := Tryz.func373.trans (congrArg some (by kernel_rfl))
  f337 := Tryz.func362.trans (congrArg some (by kernel_rfl))
  f338 := Tryz.func363.trans (congrArg some (by kernel_rfl))
  t0 := Tryz.underlying0
  a0 := Tryz.isAgg0
  z0 := Tryz.sizeOf0
  v0 := Tryz.zeroValue0
  t2 := Tryz.underlying2
  a2 := Tryz.isAgg2
  z2 := Tryz.sizeOf2
  v2 := Tryz.zeroValue2
  t3 := Tryz.underlying3
  a3 := Tryz.isAgg3
  z3 := Tryz.sizeOf3
  v3 := Tryz.zeroValue3
  t4 := Tryz.underlying4
  a4 := Tryz.isAgg4
  z4 := Tryz.sizeOf4
  v4 := Tryz.zeroValue4
  t5 := Tryz.underlying5
  a5 := Tryz.isAgg5
  z5 := Tryz.sizeOf5
  v5 := Tryz.zeroValue5
  t9 := Tryz.underlying9
  a9 := Tryz.isAgg9
  z9 := Tryz.sizeOf9
  v9 := Tryz.zeroValue9
  t20 := Tryz.underlying20
  a20 := Tryz.isAgg20
  z20 := Tryz.sizeOf20
  v20 := Tryz.zeroValue20
  t21 := Tryz.underlying21
  a21 := Tryz.isAgg21
  z21 := Tryz.sizeOf21
  v21 := Tryz.zeroValue21
  t37 := Tryz.underlying215
  a37 := Tryz.isAgg215
  z37 := Tryz.sizeOf215
  v37 := Tryz.zeroValue215
  t46 := Tryz.underlying189
  a46 := Tryz.isAgg189
  z46 := Tryz.sizeOf189
  v46 := Tryz.zeroValue189
  t51 := Tryz.underlying246
  a51 := Tryz.isAgg246
  z51 := Tryz.sizeOf246
  v51 := Tryz.zeroValue246
  t53 := Tryz.underlying248
  a53 := Tryz.isAgg248
  z53 := Tryz.sizeOf248
  v53 := Tryz.zeroValue248
  t75 := Tryz.underlying257
  a75 := Tryz.isAgg257
  z75 := Tryz.sizeOf257
  v75 := Tryz.zeroValue257
  t76 := Tryz.underlying258
  a76 := Tryz.isAgg258
  z76 := Tryz.sizeOf258
  v76 := Tryz.zeroValue258
  t85 := Tryz.underlying342
  a85 := Tryz.isAgg342
  z85 := Tryz.sizeOf342
  v85 := Tryz.zeroValue342
  t127 := Tryz.underlying312
  a127 := Tryz.isAgg312
  z127 := Tryz.sizeOf312
  v127 := Tryz.zeroValue312
  t143 := Tryz.underlying381
  a143 := Tryz.isAgg381
  z143 := Tryz.sizeOf381
  v143 := Tryz.zeroValue381
  t145 := Tryz.underlying383
  a145 := Tryz.isAgg383
  z145 := Tryz.sizeOf383
  v145 := Tryz.zeroValue383
  t167 := Tryz.underlying341
  a167 := Tryz.isAgg341
  z167 := Tryz.sizeOf341
  v167 := Tryz.zeroValue341
  t168 := Tryz.underlying344
  a168 := Tryz.isAgg344
  z168 := Tryz.sizeOf344
  v168 := Tryz.zeroValue344
  t171 := Tryz.underlying304
  a171 := Tryz.isAgg304
  z171 := Tryz.sizeOf304
  v171 := Tryz.zeroValue304
  t173 := Tryz.underlying306
  a173 := Tryz.isAgg306
  z173 := Tryz.sizeOf306
  v173 := Tryz.zeroValue306
  t175 := Tryz.underlying365
  a175 := Tryz.isAgg365
  z175 := Tryz.sizeOf365
  v175 := Tryz.zeroValue365
  t210 := Tryz.underlying368
  a210 := Tryz.isAgg368
  z210 := Tryz.sizeOf368
  v210 := Tryz.zeroValue368
  t212 := Tryz.underlying349
  a212 := Tryz.isAgg349
  z212 := Tryz.sizeOf349
  v212 := Tryz.zeroValue349
  t213 := Tryz.underlying350
  a213 := Tryz.isAgg350
  z213 := Tryz.sizeOf350
  t232 := Tryz.underlying384
  a232 := Tryz.isAgg384
  z232 := Tryz.sizeOf384
  v232 := Tryz.zeroValue384
  t233 := Tryz.underlying385
  a233 := Tryz.isAgg385
  z233 := Tryz.sizeOf385
  v233 := Tryz.zeroValue385
  g15 := by kernel_rfl
  g16 := by kernel_rfl
  g17 := by kernel_rfl
  g18 := by kernel_rfl
  g19 := by kernel_rfl
  t80 := Tryz.underlying271
  a80 := Tryz.isAgg271
  z80 := Tryz.sizeOf271
  v80 := Tryz.zeroValue271
  i0 := by kernel_rfl
  i2 := by kernel_rfl
  i3 := by kernel_rfl
  i4 := by kernel_rfl
  i5 := by kernel_rfl
  i9 := by kernel_rfl
  i20 := by kernel_rfl
  i21 := by kernel_rfl
  i37 := by kernel_rfl
  i46 := by kernel_rfl
  i51 := by kernel_rfl
  i53 := by kernel_rfl
  i75 := by kernel_rfl
  i76 := by kernel_rfl
  i80 := by kernel_rfl
  i85 := by kernel_rfl
  i127 := by kernel_rfl
  i143 := by kernel_rfl
  i145 := by kernel_rfl
  i167 := by kernel_rfl
  i168 := by kernel_rfl
  i171 := by kernel_rfl
  i173 := by kernel_rfl
  i175 := by kernel_rfl
  i210 := by kernel_rfl
  i212 := by kernel_rfl
  i232 := by kernel_rfl
  i233 := by kernel_rfl
  m15 := by kernel_rfl
  m16 := by kernel_rfl
  m17 := by kernel_rfl
  m18 := by kernel_rfl
  m19 := by kernel_rfl
  c0 := by kernel_rfl
  c2 := by kernel_rfl
  c3 := by kernel_rfl
  c4 := by kernel_rfl
  c5 := by kernel_rfl
  c9 := by kernel_rfl
  c20 := by kernel_rfl
  c21 := by kernel_rfl
  c37 := by kernel_rfl
  c46 := by kernel_rfl
  c51 := by kernel_rfl
  c53 := by kernel_rfl
  c75 := by kernel_rfl
  c76 := by kernel_rfl
  c80 := by kernel_rfl
  c85 := by kernel_rfl
  c127 := by kernel_rfl
  c143 := by kernel_rfl
  c145 := by kernel_rfl
  c167 := by kernel_rfl
  c168 := by kernel_rfl
  c171 := by kernel_rfl
  c173 := by kernel_rfl
  c175 := by kernel_rfl
  c210 := by kernel_rfl
  c212 := by kernel_rfl
  c213 := by kernel_rfl
  c232 := by kernel_rfl
  c233 := by kernel_rfl }
end Go.Proofs
/- strconv.Atoi and Itoa: from the kit's shelf. -/
set_option linter.unusedSimpArgs false
set_option linter.unusedVariables false
set_option maxRecDepth 10000
namespace Go.Proofs
open Go Av Go.RowKit

theorem hasT {f : Nat} {fn : Func} (h : Tryz.prog.funcs[f]? = some fn) (h1 : fn.body.isSome = true) (h2 : (fn.name == "runtime.NumGoroutine") = false) : Has Tryz.prog f := ⟨fn, h, h1, h2⟩

theorem one_arg {vs : Array Value} (h : 1 = vs.size) : ∃ x, vs = #[x] := by
  refine ⟨vs[0], ?_⟩
  apply Array.ext
  · simp [← h]
  · intro i h1 h2
    have : i = 0 := by omega
    subst this; rfl

def atoiV (s : Str) : Int × Dat := match Lib.atoiAll s with
  | .ok v => (v, .nilIface)
  | .range => (Lib.atoiSat s, .iface 344 .opq)
  | _ => (0, .iface 344 .opq)

theorem errCell {A : Nat → Prop} {w : World} (hg : ∀ g cs, globOf g = some cs → GRep A w g cs) (g : Nat) (h : globOf g = some [.iface 381 .opq]) :
    ∃ ev, w.cell? ⟨g, 0, none⟩ = some ev ∧ (ev = .nilIface ∨ ∃ te pe, ev = .iface te pe) := by
  obtain ⟨h0, C, T, fr, h1, h2, h3, h4⟩ := hg g _ h
  have hs : C[0]? = some (C[0]'(by simp at h2; omega)) := by simp
  have := h4 0 _ _ rfl hs
  refine ⟨C[0]'(by simp at h2; omega), ?_, ?_⟩
  · simp [World.cell?, h1]
  · generalize C[0]'(by simp at h2; omega) = v at this
    cases this with
    | iface t x v h => exact .inr ⟨_, _, rfl⟩

theorem vrep_two {β : Blocks} {A : Nat → Prop} {w : World} {H : Heap} {x y : Dat} {u v : Value} (h1 : Rep A w x u) (h2 : Rep A w y v) : VRep β A w H (.tup [.d x, .d y]) (.tuple #[u, v]) := by
  refine .tup _ _ rfl ?_
  intro i c z hc hz
  match i, hc, hz with
  | 0, hc, hz => cases hc; cases hz; exact .d _ _ h1
  | 1, hc, hz => cases hc; cases hz; exact .d _ _ h2

theorem i64b {v : Int} (h0 : -9223372036854775808 ≤ v) (h1 : v ≤ 9223372036854775807) : IntKind.i64.min ≤ v ∧ v ≤ IntKind.i64.max := by
  have e1 : IntKind.i64.min = -9223372036854775808 := by decide
  have e2 : IntKind.i64.max = 9223372036854775807 := by decide
  rw [e1, e2]; exact ⟨h0, h1⟩

theorem call222 (s : Str) (hs : s.length ≤ 68719476736) : CallOK Tryz.prog 222 [.d (.str s)] [] (.tup [.d (.int .i64 (atoiV s).1), .d (atoiV s).2]) [] := by
  refine CallOK.of_callsG (ds := [.str s]) (hasT Tryz.func222 (by kernel_rfl) (by kernel_rfl)) ?_
  intro A w vs hg hl hv
  obtain ⟨x, rfl⟩ := one_arg hl
  have hx := hv 0 _ x rfl rfl
  cases hx with
  | str _ h =>
    have e : (⟨s.toArray⟩ : ByteArray).data.toList = s := by simp
    have hsz : (⟨s.toArray⟩ : ByteArray).size = s.length := by simp [ByteArray.size]
    cases ha : Lib.atoiAll s with
    | ok v =>
      have hv : atoiV s = (v, .nilIface) := by unfold atoiV; rw [ha]
      rw [hv]
      obtain ⟨b0, b1⟩ := Lib.atoiAll_bounds ha
      refine (Any.strconv_Atoi_ok Tryz.laysC172 ⟨s.toArray⟩ (by omega) v (by rw [e]; exact ha) w).mono ?_
      rintro e w' ⟨rfl, hw⟩
      refine ⟨_, rfl, ?_, fun β H => vrep_two (.int _ _ (i64b b0 b1)) .nilIface⟩
      rcases hw with rfl | ⟨t, rfl⟩
      · exact Below.refl _ _
      · exact Lib.bytesWorld_below _ _ _
    | range =>
      have hv : atoiV s = (Lib.atoiSat s, .iface 344 .opq) := by unfold atoiV; rw [ha]
      rw [hv]
      obtain ⟨ev, g1, g2⟩ := errCell hg 5 rfl
      obtain ⟨b0, b1⟩ := Lib.atoiSat_bounds s
      refine (Any.strconv_Atoi_range Tryz.laysC172 ⟨s.toArray⟩ (by omega) (by rw [e]; exact ha) ev w g1 g2).mono ?_
      rintro e' w' ⟨N, rfl, h1, h2, hb⟩
      rw [e]
      exact ⟨_, rfl, hb, fun β H => vrep_two (.int _ _ (i64b b0 b1)) (.iface _ _ _ (.opq _ rfl))⟩
    | _ =>
      have hv : atoiV s = (0, .iface 344 .opq) := by unfold atoiV; rw [ha]
      rw [hv]
      obtain ⟨ev, g1, g2⟩ := errCell hg 4 rfl
      refine (Any.strconv_Atoi_syntax Tryz.laysC172 ⟨s.toArray⟩ (by omega) (by rw [e]; exact ha) ev w g1 g2).mono ?_
      rintro e w' ⟨N, rfl, h1, h2, hb⟩
      exact ⟨_, rfl, hb, fun β H => vrep_two (.int _ _ (i64b (by omega) (by omega))) (.iface _ _ _ (.opq _ rfl))⟩

theorem atoiV_bd (s : Str) : -9223372036854775808 ≤ (atoiV s).1 ∧ (atoiV s).1 ≤ 9223372036854775807 := by
  unfold atoiV
  cases ha : Lib.atoiAll s with
  | ok v => exact Lib.atoiAll_bounds ha
  | range => exact Lib.atoiSat_bounds s
  | _ => exact ⟨by show (-9223372036854775808 : Int) ≤ 0; omega, by show (0 : Int) ≤ 9223372036854775807; omega⟩
theorem atoiV_err (s : Str) : (atoiV s).2 = .nilIface ∨ (atoiV s).2 = .iface 344 .opq := by
  unfold atoiV
  cases ha : Lib.atoiAll s with
  | ok v => exact .inl rfl
  | range => exact .inr rfl
  | _ => exact .inr rfl

theorem tabI {A : Nat → Prop} {w : World} (hg : ∀ g cs, globOf g = some cs → GRep A w g cs) : Lib.TabIs Tryz.prog w "internal/strconv.uint64pow10" .u64 Lib.pow10Tab := by
  obtain ⟨h0, C, T, fr, h1, h2, h3, h4⟩ := hg 3 tab3 rfl
  have hn : Tryz.prog.globalNamed "internal/strconv.uint64pow10" = some 3 := by kernel_rfl
  unfold Lib.TabIs World.var?
  rw [hn]
  simp only [Option.bind_some, h1, Option.some.injEq]
  have hlen : tab3.length = 20 := by simp [tab3]
  apply Array.ext
  · rw [← h2, hlen]; simp [Lib.pow10Tab]
  · intro i hi hi'
    have hi20 : i < 20 := by rw [← h2, hlen] at hi; exact hi
    have e1 : tab3[i]? = some (.int .u64 ((10 ^ i : Nat) : Int)) := by simp [tab3, hi20]
    have := h4 i _ C[i] e1 (by simp)
    generalize C[i] = v at this
    cases this
    simp [Lib.pow10Tab]

theorem call96 (n : Int) (h0 : -9223372036854775808 ≤ n) (h1 : n ≤ 9223372036854775807) : CallOK Tryz.prog 96 [.d (.int .i64 n)] [] (.d (.str (Lib.itoa n))) [] := by
  refine CallOK.of_callsG (ds := [.int .i64 n]) (hasT Tryz.func96 (by kernel_rfl) (by kernel_rfl)) ?_
  intro A w vs hg hl hv
  obtain ⟨x, rfl⟩ := one_arg hl
  have hx := hv 0 _ x rfl rfl
  cases hx with
  | int =>
    refine (Any.strconv_Itoa Tryz.laysM171 n h0 h1 w (tabI hg)).mono ?_
    rintro e w' ⟨rfl, k, os, rfl⟩
    refine ⟨_, rfl, ?_, fun β H => .d _ _ (.str _ ?_)⟩
    · refine ⟨rfl, rfl, rfl, by simp [Sort.grow], fun i hi => ?_⟩
      show ((w.drewN k).heap ++ os)[i]? = _
      rw [Array.getElem?_append_left (by show i < w.heap.size; omega)]
      rfl
    · have := Lib.itoa_length_le n h0 h1
      omega
end Go.Proofs
/- path.take: the part with which a text begins, and the rest. -/
set_option linter.unusedSimpArgs false
set_option linter.unusedVariables false
set_option maxRecDepth 10000
namespace Go.Proofs
open Go Av

/-- a call that only reads a captured variable -/
theorem Con.rl {P : Program} {f : Nat} {ds cs : List Dat} {r : Dat} (h : Con P f (ds.map .d ++ [.ref 1000 0]) [(1000, .box (cs.map .d))] (.d r) []) (i : Nat) :
    CallOK P f (ds.map .d ++ [.ref i 0]) [(i, some (.box (cs.map .d)))] (.d r) [] := by
  have h1 : ∀ j, (get [(1000, Obj.box (cs.map .d))] j).isSome = true → j = 1000 := by
    intro j hj
    simp only [Av.get] at hj
    split at hj
    · rename_i e; exact e.symm
    · cases hj
  have := h.call (fun _ => i) (fun j hj => by rw [h1 j hj]; decide) (fun a b ha hb _ => by rw [h1 a ha, h1 b hb]) ?_ (closed_box _ _) [] (by simp) (closed_box _ _) trivial
  · have e : (ds.map Av.d).map (Av.ren fun _ => i) = ds.map Av.d := by
      rw [List.map_map]; exact List.map_congr_left fun x _ => by simp [Av.ren]
    simpa [Av.ren, Obj.ren, renL_d, e] using this
  · intro c hc
    rcases List.mem_append.1 hc with hc | hc
    · obtain ⟨x, _, rfl⟩ := List.mem_map.1 hc; trivial
    · rw [List.mem_singleton.1 hc]; rfl

noncomputable def endI (s : Str) : Int := if anyI (s.drop 1) < 0 then s.length else 1 + anyI (s.drop 1)
theorem endI_bd (s : Str) (h : 0 < s.length) : 1 ≤ endI s ∧ endI s ≤ s.length := by
  have := anyI_bd (s.drop 1)
  rw [List.length_drop] at this
  unfold endI
  split <;> omega

theorem sls_from (s : Str) (k : Nat) : (s.drop k).take ((s.length : Int) - k).toNat = s.drop k := by
  apply List.take_of_length_le
  rw [List.length_drop]; omega

theorem sls_fromI (s : Str) (n : Int) (h : 0 ≤ n) : (s.drop n.toNat).take ((s.length : Int) - n).toNat = s.drop n.toNat := by
  have := sls_from s n.toNat
  rwa [Int.toNat_of_nonneg h] at this

theorem walk218 (s : Str) (hs : s.length ≤ 68719476736) (h0 : 0 < s.length) : Con Tryz.prog 218 ([Dat.int .i64 1].map .d ++ [.ref 1000 0]) [(1000, .box ([Dat.str s].map .d))] (.d (.int .i64 (endI s))) [] := by
  refine ok218.con (k := false) (Nat.le_of_ble_eq_true rfl) (closed_box _ _) trivial ?_
  have t1 : Int.toNat 1 = 1 := rfl
  have e1 : (s.drop 1).take ((s.length : Int) - 1).toNat = s.drop 1 := sls_from s 1
  have hd : (s.drop 1).length ≤ 68719476736 := by rw [List.length_drop]; omega
  have hb := anyI_bd (s.drop 1)
  rw [List.length_drop] at hb
  simp only [List.map_cons, List.map_nil, List.cons_append, List.nil_append]
  simp only [go_sem, ir218, t1, e1, Nat.reduceAdd, Nat.reduceEqDiff, Nat.reduceBEq, Nat.reduceLeDiff, reduceCtorEq, ↓reduceIte]
  refine ⟨by omega, wps_call rfl ((walk219 (s.drop 1) hd).call trivial) trivial ?_⟩
  simp only [go_sem, Nat.reduceAdd, Nat.reduceEqDiff, Nat.reduceBEq, Nat.reduceLeDiff, reduceCtorEq, ↓reduceIte]
  refine ⟨fun h => ?_, fun h => ?_⟩
  · simp only [decide_eq_true_eq] at h
    have : endI s = s.length := by unfold endI; rw [if_pos h]
    rw [this]
  · simp only [decide_eq_false_iff_not] at h
    have : endI s = 1 + anyI (s.drop 1) := by unfold endI; rw [if_neg h]
    rw [this]
    have hw : IntKind.i64.wrap (1 + anyI (s.drop 1)) = 1 + anyI (s.drop 1) := wrap64 (by omega) (by omega)
    rw [hw]

noncomputable def takeS (s : Str) : Part × Str × Bool :=
  if preS s [91, 42, 93] then (⟨3, 0, []⟩, s.drop 3, true)
  else if s.getD 0 0 = 46 then (⟨1, 0, (s.drop 1).take ((endI s) - 1).toNat⟩, s.drop (endI s).toNat, true)
  else if s.getD 0 0 = 63 then (⟨4, 0, (s.drop 1).take ((endI s) - 1).toNat⟩, s.drop (endI s).toNat, true)
  else (⟨2, (atoiV (cutS (s.drop 1) 93).1).1, []⟩, (cutS (s.drop 1) 93).2.1,
    ((((s.getD 0 0).toNat : Int) == 91) && (cutS (s.drop 1) 93).2.2) && ((isNilI (.d (atoiV (cutS (s.drop 1) 93).1).2)).getD false) && (Lib.itoa (atoiV (cutS (s.drop 1) 93).1).1 == (cutS (s.drop 1) 93).1))

theorem cutS_len (s : Str) (c : UInt8) : (cutS s c).1.length ≤ s.length ∧ (cutS s c).2.1.length ≤ s.length := by
  unfold cutS
  split
  · simp only [List.length_take, List.length_drop]; omega
  · simp

theorem takeS_lt (s : Str) (h0 : 0 < s.length) : (takeS s).2.1.length < s.length ∧ (takeS s).1.name.length ≤ s.length := by
  have he := endI_bd s h0
  unfold takeS
  split
  · simp only [List.length_drop, List.length_nil]; omega
  split
  · simp only [List.length_drop, List.length_take]; omega
  split
  · simp only [List.length_drop, List.length_take]; omega
  · have := cutS_len (s.drop 1) 93
    rw [List.length_drop] at this
    simp only [List.length_nil]; omega

theorem walk147 (s : Str) (hs : s.length ≤ 68719476736) (h0 : 0 < s.length) : PCon Tryz.prog 147 [.str s] (.tup [.d (encP (takeS s).1), .d (.str (takeS s).2.1), .d (.bool (takeS s).2.2)]) := by
  refine ok147.pcon (Nat.le_of_ble_eq_true rfl) (by simp [inTR, idsIn, idsInL]) ?_
  have he := endI_bd s h0
  have t1 : Int.toNat 1 = 1 := rfl
  have t3 : Int.toNat 3 = 3 := rfl
  simp only [go_sem, ir147, Nat.reduceAdd, Nat.reduceEqDiff, Nat.reduceBEq, Nat.reduceLeDiff, reduceCtorEq, ↓reduceIte]
  refine wps_call rfl (Con.rl (walk218 s hs h0) 1) ⟨rfl, trivial⟩ ?_
  simp only [go_sem, Nat.reduceAdd, Nat.reduceEqDiff, Nat.reduceBEq, Nat.reduceLeDiff, reduceCtorEq, ↓reduceIte]
  refine wps_call rfl ((walk220 s [91, 42, 93] (by decide)).call trivial) trivial ?_
  simp only [go_sem, Nat.reduceAdd, Nat.reduceEqDiff, Nat.reduceBEq, Nat.reduceLeDiff, reduceCtorEq, ↓reduceIte]
  refine ⟨fun hp => ?_, fun hp => ?_⟩
  · have hv : takeS s = (⟨3, 0, []⟩, s.drop 3, true) := by unfold takeS; rw [if_pos hp]
    have hl : 3 ≤ s.length := by
      unfold preS at hp
      simp only [Bool.and_eq_true, decide_eq_true_eq] at hp
      have := hp.1
      simp only [List.length_cons, List.length_nil] at this
      omega
    rw [hv]
    have q := sls_from s 3
    refine ⟨by omega, by decide, ?_⟩
    rw [show ((s.length : Int) - 3).toNat = ((s.length : Int) - (3 : Nat)).toNat from rfl, t3, q]
    rfl
  · have q2 := sls_fromI s (endI s) (by omega)
    have q3 := sls_from s 1
    refine ⟨by omega, fun h46 => ?_, fun h46 => ⟨by omega, fun h63 => ?_, fun h63 => ⟨by omega, ?_⟩⟩⟩
    · have hc : s.getD 0 0 = 46 := by
        simp only [t0', beq_iff_eq] at h46
        have : (s.getD 0 0).toNat = (46 : UInt8).toNat := by exact_mod_cast h46
        exact UInt8.toNat_inj.1 this
      have hv : takeS s = (⟨1, 0, (s.drop 1).take ((endI s) - 1).toNat⟩, s.drop (endI s).toNat, true) := by unfold takeS; rw [if_neg (by simp [hp]), if_pos hc]
      refine ⟨by omega, by omega, by decide, ?_⟩
      rw [q2, hv, t1]
      rfl
    · have hn46 : ¬ s.getD 0 0 = 46 := by
        intro e
        simp only [t0', e] at h46
        cases h46
      have hc : s.getD 0 0 = 63 := by
        simp only [t0', beq_iff_eq] at h63
        have : (s.getD 0 0).toNat = (63 : UInt8).toNat := by exact_mod_cast h63
        exact UInt8.toNat_inj.1 this
      have hv : takeS s = (⟨4, 0, (s.drop 1).take ((endI s) - 1).toNat⟩, s.drop (endI s).toNat, true) := by unfold takeS; rw [if_neg (by simp [hp]), if_neg hn46, if_pos hc]
      refine ⟨by omega, by omega, by decide, ?_⟩
      rw [q2, hv, t1]
      rfl
    · have hn46 : ¬ s.getD 0 0 = 46 := by
        intro e
        simp only [t0', e] at h46
        cases h46
      have hn63 : ¬ s.getD 0 0 = 63 := by
        intro e
        simp only [t0', e] at h63
        cases h63
      have hv : takeS s = (⟨2, (atoiV (cutS (s.drop 1) 93).1).1, []⟩, (cutS (s.drop 1) 93).2.1,
          ((((s.getD 0 0).toNat : Int) == 91) && (cutS (s.drop 1) 93).2.2) && ((isNilI (.d (atoiV (cutS (s.drop 1) 93).1).2)).getD false) && (Lib.itoa (atoiV (cutS (s.drop 1) 93).1).1 == (cutS (s.drop 1) 93).1)) := by
        unfold takeS; rw [if_neg (by simp [hp]), if_neg hn46, if_neg hn63]
      rw [hv, t1, show ((s.length : Int) - 1).toNat = ((s.length : Int) - (1 : Nat)).toNat from rfl, q3]
      have hd : (s.drop 1).length ≤ 68719476736 := by rw [List.length_drop]; omega
      refine wps_call rfl ((walk221 (s.drop 1) 93 hd).call (by simp [pureR])) trivial ?_
      have hcl := cutS_len (s.drop 1) 93
      generalize hcut : cutS (s.drop 1) 93 = cu at *
      obtain ⟨num, rest, closed⟩ := cu
      simp only [go_sem, Nat.reduceAdd, Nat.reduceEqDiff, Nat.reduceBEq, Nat.reduceLeDiff, reduceCtorEq, ↓reduceIte]
      have hnl : num.length ≤ 68719476736 := by simp only at hcl; omega
      have hab := atoiV_bd num
      have hae := atoiV_err num
      refine wps_call rfl (call222 num hnl) trivial ?_
      generalize hat : atoiV num = av at *
      obtain ⟨iv, er⟩ := av
      simp only at hab hae
      simp only [go_sem, t0', Nat.reduceAdd, Nat.reduceEqDiff, Nat.reduceBEq, Nat.reduceLeDiff, reduceCtorEq, ↓reduceIte]
      refine ⟨by omega, scQ_pure closed (fun _ => ?_) ?_⟩
      · simp only [go_sem, Nat.reduceAdd, Nat.reduceEqDiff, Nat.reduceBEq, Nat.reduceLeDiff, reduceCtorEq, ↓reduceIte]
      simp only [go_sem, Nat.reduceAdd, Nat.reduceEqDiff, Nat.reduceBEq, Nat.reduceLeDiff, reduceCtorEq, ↓reduceIte]
      rcases hae with rfl | rfl
      · refine scQ_pure true (fun _ => ?_) ?_
        · simp only [go_sem, isNilI, Nat.reduceAdd, Nat.reduceEqDiff, Nat.reduceBEq, Nat.reduceLeDiff, reduceCtorEq, ↓reduceIte]
        simp only [go_sem, Nat.reduceAdd, Nat.reduceEqDiff, Nat.reduceBEq, Nat.reduceLeDiff, reduceCtorEq, ↓reduceIte]
        refine scQ_pure (Lib.itoa iv == num) (fun _ => ?_) ?_
        · simp only [go_sem, Nat.reduceAdd, Nat.reduceEqDiff, Nat.reduceBEq, Nat.reduceLeDiff, reduceCtorEq, ↓reduceIte]
          refine wps_call rfl (call96 iv hab.1 hab.2) trivial ?_
          simp only [go_sem, Nat.reduceAdd, Nat.reduceEqDiff, Nat.reduceBEq, Nat.reduceLeDiff, reduceCtorEq, ↓reduceIte]
        simp only [go_sem, isNilI, Option.getD_some, Nat.reduceAdd, Nat.reduceEqDiff, Nat.reduceBEq, Nat.reduceLeDiff, reduceCtorEq, ↓reduceIte]
        rfl
      · refine scQ_pure false (fun _ => ?_) ?_
        · simp only [go_sem, isNilI, Nat.reduceAdd, Nat.reduceEqDiff, Nat.reduceBEq, Nat.reduceLeDiff, reduceCtorEq, ↓reduceIte]
        simp only [go_sem, Nat.reduceAdd, Nat.reduceEqDiff, Nat.reduceBEq, Nat.reduceLeDiff, reduceCtorEq, ↓reduceIte]
        refine scQ_pure (Lib.itoa iv == num) (fun _ => ?_) ?_
        · simp only [go_sem, Nat.reduceAdd, Nat.reduceEqDiff, Nat.reduceBEq, Nat.reduceLeDiff, reduceCtorEq, ↓reduceIte]
          refine wps_call rfl (call96 iv hab.1 hab.2) trivial ?_
          simp only [go_sem, Nat.reduceAdd, Nat.reduceEqDiff, Nat.reduceBEq, Nat.reduceLeDiff, reduceCtorEq, ↓reduceIte]
        simp only [go_sem, isNilI, Option.getD_some, Nat.reduceAdd, Nat.reduceEqDiff, Nat.reduceBEq, Nat.reduceLeDiff, reduceCtorEq, ↓reduceIte]
        rfl
end Go.Proofs
/- path.Parse: it always answers, and always the same. -/
set_option linter.unusedSimpArgs false
set_option linter.unusedVariables false
set_option maxRecDepth 10000
namespace Go.Proofs
open Go Av

noncomputable def parseL : Nat → Str → Option (List Part)
  | 0, _ => some []
  | f + 1, r => if r == [] then some [] else if !(takeS r).2.2 || !(validP (takeS r).1) then none else match parseL f (takeS r).2.1 with
    | some ps => some ((takeS r).1 :: ps)
    | none => none
noncomputable def parseS (s : Str) : List Part × Int :=
  if s == [] then ([], 4) else if (s.length : Int) > 200 then ([], 5) else match parseL (s.length + 2) (46 :: s) with
    | some ps => if (ps.length : Int) > 16 then ([], 9) else (ps, 0)
    | none => ([], 13)

theorem canonL_parts (l : List Part) : canonL (l.map encP) = l.map encP := by
  rw [canonL_map, List.map_map]
  exact List.map_congr_left fun p _ => by simp [encP, Dat.canon, canonL]
attribute [go_sem] canonL_parts

theorem walk80 (s : Str) (hs : s.length ≤ 68719476736) : PCon Tryz.prog 80 [.str s] (.tup [.d (.list 3 ((parseS s).1.map encP)), .d (.int .i64 (parseS s).2)]) := by
  refine ok80.pcon (Nat.le_of_ble_eq_true rfl) (by simp [inTR, idsIn, idsInL]) ?_
  simp only [go_sem, ir80, Nat.reduceAdd, Nat.reduceEqDiff, Nat.reduceBEq, Nat.reduceLeDiff, reduceCtorEq, ↓reduceIte]
  refine ⟨fun h0 => ?_, fun h0 => ⟨fun h200 => ?_, fun h200 => ?_⟩⟩
  · have : parseS s = ([], 4) := by unfold parseS; rw [if_pos h0]
    rw [this]; rfl
  · have : parseS s = ([], 5) := by
      unfold parseS; rw [if_neg (by simp [h0])]
      simp only [decide_eq_true_eq] at h200
      rw [if_pos h200]
    rw [this]; rfl
  have hR : parseS s = match parseL (s.length + 2) (46 :: s) with
    | some ps => if (ps.length : Int) > 16 then ([], 9) else (ps, 0)
    | none => ([], 13) := by
      unfold parseS; rw [if_neg (by simp [h0])]
      simp only [decide_eq_false_iff_not] at h200
      rw [if_neg h200]
  generalize hr0 : parseL (s.length + 2) (46 :: s) = R at hR
  simp only [decide_eq_false_iff_not] at h200
  refine ⟨by first | omega | (simp; omega), ?_⟩
  refine wpc_loop (fun n st => ∃ (ps : List Part) (rest : Str), rest.length < n ∧ ps.length + rest.length ≤ 201 ∧ rest.length ≤ 68719476736 ∧ R = (parseL n rest).map (ps ++ ·) ∧
    st = ⟨[(4, .ms 36 ps.length), (5, .d (.str rest))], [(36, .row ps.length 3 (ps.map encP))]⟩) ?_ ?_
  · refine ⟨s.length + 2, _, Wk.nilT 4 36 3 rfl rfl (by decide), [], 46 :: s, by simp, by simp; omega, by simp; omega, ?_, rfl⟩
    rw [hr0]; cases R <;> simp
  · rintro n st ⟨ps, rest, hn, hb, hl, hinv, rfl⟩
    by_cases he : rest = []
    · subst he
      obtain ⟨n, rfl⟩ : ∃ m, n = m + 1 := by cases n with | zero => simp at hn | succ m => exact ⟨m, rfl⟩
      have e1 : (([] : Str) == []) = true := rfl
      have hRp : R = some ps := by rw [hinv]; simp [parseL]
      subst hRp
      simp only at hR
      simp only [go_sem, e1, Bool.not_true, List.length_map, Nat.reduceAdd, Nat.reduceEqDiff, Nat.reduceBEq, Nat.reduceLeDiff, reduceCtorEq, ↓reduceIte]
      refine ⟨fun h16 => ?_, fun h16 => ?_⟩
      · have h16 : (ps.length : Int) > 16 := by simpa using h16
        rw [if_pos h16] at hR
        rw [hR]; rfl
      · have h16 : ¬ (ps.length : Int) > 16 := by simpa using h16
        rw [if_neg h16] at hR
        rw [hR]
    · have h0r : 0 < rest.length := List.length_pos_iff.2 he
      have e2 : (rest == []) = false := by simpa using he
      obtain ⟨n, rfl⟩ : ∃ m, n = m + 1 := by cases n with | zero => omega | succ m => exact ⟨m, rfl⟩
      have hlt := takeS_lt rest h0r
      simp only [parseL, e2] at hinv
      simp only [go_sem, e2, Bool.not_false, Nat.reduceAdd, Nat.reduceEqDiff, Nat.reduceBEq, Nat.reduceLeDiff, reduceCtorEq, ↓reduceIte]
      refine wps_call rfl ((walk147 rest hl h0r).call (by simp [pureR])) trivial ?_
      generalize htk : takeS rest = tk at *
      obtain ⟨⟨pk, pi, pn⟩, nx, is⟩ := tk
      simp only at hlt hinv
      simp only [go_sem, encP, Nat.reduceAdd, Nat.reduceEqDiff, Nat.reduceBEq, Nat.reduceLeDiff, reduceCtorEq, ↓reduceIte]
      have hv := walk148 ⟨pk, pi, pn⟩ (by simp only; omega)
      refine scQ_pure (!validP ⟨pk, pi, pn⟩) (fun _ => ?_) ?_
      · simp only [go_sem, Nat.reduceAdd, Nat.reduceEqDiff, Nat.reduceBEq, Nat.reduceLeDiff, reduceCtorEq, ↓reduceIte]
        refine wps_call rfl (hv.call trivial) trivial ?_
        simp only [go_sem, Nat.reduceAdd, Nat.reduceEqDiff, Nat.reduceBEq, Nat.reduceLeDiff, reduceCtorEq, ↓reduceIte]
      simp only [go_sem, Nat.reduceAdd, Nat.reduceEqDiff, Nat.reduceBEq, Nat.reduceLeDiff, reduceCtorEq, ↓reduceIte]
      refine ⟨fun hf => ?_, fun hf => ?_⟩
      · rw [hf] at hinv
        simp only [↓reduceIte, Option.map_none] at hinv
        subst hinv
        rw [hR]; rfl
      · rw [hf] at hinv
        refine ⟨by simp, by simp; omega, n, _, by omega, Wk.less ?_, ps ++ [⟨pk, pi, pn⟩], nx, by omega, by simp; omega, by omega, ?_, rfl⟩
        · simp only [go_sem, encP, List.length_append, List.length_singleton, List.map_append, List.map_cons, List.map_nil, Nat.reduceAdd, Nat.reduceEqDiff, Nat.reduceBEq, Nat.reduceLeDiff, reduceCtorEq, ↓reduceIte]
        · rw [hinv]
          cases parseL n nx <;> simp
end Go.Proofs
