/- A part of the proofs of the laws of intervals: XE. -/
import Derived.Test.YtcmmchpofkoddaaXD
import Derived.Test.YtcmmchpofkoddaaRows
/- The program of the laws of layer 2, for the executor. -/
namespace Go.Proofs.Ytcmmchpofkoddaa.Ex
open Go.Proofs Go.Proofs.Ytcmmchpofkoddaa
instance rt0 : RT where
  C := fun _ => Bool
  body := fun _ => .bool
  unf := fun _ x => x
  fld := fun _ x => x
  uf := fun _ _ => rfl
  fu := fun _ _ => rfl
def tab : List (TypeId × TInfo) := [
  (3, ⟨(.int .i64), 8, 0, [], false⟩),
  (4, ⟨.bool, 1, 0, [], false⟩),
  (22, ⟨(.st (.pair (.int .i64) (.int .i64))), 16, 0, [(0, 1), (1, 1)], true⟩),
  (23, ⟨(.st (.pair (.int .i64) (.int .i64))), 16, 0, [(0, 1), (1, 1)], true⟩),
  (39, ⟨(.sl (.int .i64)), 24, 3, [], false⟩),
  (52, ⟨(.sl (.st (.pair (.int .i64) (.int .i64)))), 24, 23, [], false⟩)]

def keeps : Nat → List Nat
  | 3 => [1, 2, 4, 5, 16, 0, 7, 10, 8, 11, 9, 12, 6]
  | 4 => [1, 2, 6, 7, 0, 37, 3, 4, 11, 12, 17, 59, 60, 13, 16, 68, 14, 15, 10]
  | 5 => [0, 1, 2, 3, 4, 5, 17, 7, 8, 6]
  | 6 => [1, 2, 3, 4, 6, 7, 8, 9, 26, 0, 11, 14, 12, 15, 13, 16, 10]
  | 7 => [1, 2, 4, 5, 0, 37, 8, 46, 54, 53, 55, 52, 64, 63, 65, 62, 13, 15, 10, 17, 16, 7, 11, 6]
  | 8 => [1, 2, 0, 27, 11, 48, 7, 8, 9, 10, 6]
  | 9 => [0, 10, 7, 16, 24, 3, 31, 4, 5, 6, 2]
  | 10 => [0, 1, 4, 5, 3, 17, 2, 8]
  | 11 => [1, 2, 6, 7, 0, 34, 3, 4, 11, 12, 13, 14, 63, 10]
  | 12 => [1, 2, 4, 5, 0, 32, 7, 9, 8, 10, 12, 11, 6]
  | 13 => [0, 1, 3, 4, 2, 27, 7, 10, 55, 8, 9, 6]
  | 14 => [0, 1, 16, 7, 21, 29, 5, 8, 54, 57, 6, 4]
  | 15 => [1, 2, 5, 6, 3, 21, 0, 9, 11, 10, 12, 8]
  | 16 => [0, 1, 2, 3, 4]
  | 17 => [1, 2, 4, 5, 15, 6, 0, 18, 19, 9, 32, 45, 50, 7, 62, 8]
  | 18 => [1, 2, 4, 5, 19, 6, 0, 22, 23, 9, 39, 55, 12, 13, 69, 79, 10, 11, 7, 8]
  | 19 => [1, 2, 3, 0]
  | 20 => [0, 1, 2]
  | 21 => [0, 2, 1, 5, 4]
  | 22 => [1, 2, 0, 24, 30, 31, 35, 40, 45, 50, 8, 57, 6, 7]
  | 23 => [0, 1, 2, 4]
  | 24 => [0, 1, 2]
  | 25 => [0, 9, 8, 10, 7, 5, 24, 3, 27, 2]
  | 26 => [0, 1, 2, 3, 5, 26, 4]
  | 27 => [0, 1, 2, 3, 4]
  | 28 => [0, 1, 2, 6, 3, 4, 9]
  | 29 => [0, 2]
  | 30 => [0, 9, 8, 10, 7, 5, 15, 3, 2]
  | 31 => [0, 1, 2]
  | 32 => [0, 1, 2]
  | 33 => [0, 1, 2, 4]
  | 34 => [0, 1, 2, 3, 4]
  | 35 => [0, 1, 2, 3, 4]
  | 36 => [4, 0, 9, 16, 3, 2]
  | 37 => [0]
  | 38 => [0]
  | 39 => [0]
  | 40 => [1, 2, 4, 5, 0, 12, 15, 8, 9, 31, 45, 59, 75, 81, 6, 7, 102]
  | 41 => [0, 7, 8, 1, 2, 13, 18, 23, 28, 33, 6]
  | 42 => [0, 3, 4, 6, 8, 10, 12, 14, 2]
  | 43 => [0, 3, 4, 6, 8, 10, 2]
  | 44 => [0, 1, 4, 12, 3, 6, 16, 2, 26, 25, 27, 24, 11, 33, 7, 37, 8, 44, 9, 53, 60]
  | 45 => [1, 2, 4, 5, 15, 6, 7, 0, 20, 21, 8, 9, 41, 59, 79, 97, 103, 116]
  | 46 => [0, 1, 4, 13, 3, 6, 16, 10, 2, 24, 11, 7, 8, 39, 9, 49, 55, 62]
  | 47 => [0, 1, 2, 3, 4, 7, 6]
  | 48 => [0, 1, 4]
  | 49 => [0, 1, 17, 16, 18, 15, 3, 9, 10, 26, 2, 6, 11, 7, 4, 5]
  | 50 => [0, 1, 3, 9, 4, 2, 26, 5, 6, 35]
  | 51 => [0]
  | 52 => [0, 1, 4, 5]
  | 53 => [0, 1, 3, 4, 2, 33, 8, 11, 62, 9, 10, 6, 7]
  | 54 => [0, 1, 3, 8, 22, 2, 9, 10, 6, 11, 40, 12, 13, 14, 7, 15, 4, 5]
  | 55 => [0, 1, 3, 15, 4, 2, 31, 5, 39, 6, 7]
  | 56 => [0, 7, 6, 8, 5, 4, 16, 2]
  | 57 => [0, 1, 7, 4]
  | 58 => [0, 2]
  | 59 => [0, 1, 3, 5, 2, 11, 21, 4]
  | 60 => [0, 1, 3, 11, 2, 4, 21, 5, 28, 6]
  | 61 => [0, 1, 4]
  | _ => []
noncomputable def inl : Nat → Option Func
  | 3 => some Try.f3
  | 4 => some Try.f4
  | 5 => some Try.f5
  | 6 => some Try.f6
  | 7 => some Try.f7
  | 8 => some Try.f8
  | 9 => some Try.f9
  | 10 => some Try.f10
  | 11 => some Try.f11
  | 12 => some Try.f12
  | 13 => some Try.f13
  | 14 => some Try.f14
  | 15 => some Try.f15
  | 16 => some Try.f16
  | 17 => some Try.f17
  | 18 => some Try.f18
  | 19 => some Try.f19
  | 20 => some Try.f20
  | 21 => some Try.f21
  | 22 => some Try.f22
  | 23 => some Try.f23
  | 24 => some Try.f24
  | 25 => some Try.f25
  | 26 => some Try.f26
  | 27 => some Try.f27
  | 28 => some Try.f28
  | 29 => some Try.f29
  | 30 => some Try.f30
  | 31 => some Try.f31
  | 32 => some Try.f32
  | 33 => some Try.f33
  | 34 => some Try.f34
  | 35 => some Try.f35
  | 36 => some Try.f36
  | 37 => some Try.f37
  | 38 => some Try.f38
  | 39 => some Try.f39
  | 40 => some Try.f40
  | 41 => some Try.f41
  | 42 => some Try.f42
  | 43 => some Try.f43
  | 44 => some Try.f44
  | 45 => some Try.f45
  | 46 => some Try.f46
  | 47 => some Try.f47
  | 48 => some Try.f48
  | 49 => some Try.f49
  | 50 => some Try.f50
  | 51 => some Try.f51
  | 52 => some Try.f52
  | 53 => some Try.f53
  | 54 => some Try.f54
  | 55 => some Try.f55
  | 56 => some Try.f56
  | 57 => some Try.f57
  | 58 => some Try.f58
  | 59 => some Try.f59
  | 60 => some Try.f60
  | 61 => some Try.f61
  | _ => none
theorem tab_ok : tabB Try.prog tab = true := by kernel_rfl
theorem cmps_ok : cmpsB Try.prog tab = true := by kernel_rfl
theorem mixed : Try.prog.follows .mixedOrders = true := by kernel_rfl
theorem inl_ok : ∀ g fn, inl g = some fn → Try.prog.funcs[g]? = some fn ∧ (fn.name == "runtime.NumGoroutine") = false := by
  intro g fn h
  unfold inl at h
  split at h
  · cases h; exact ⟨Try.func3, by kernel_rfl⟩
  · cases h; exact ⟨Try.func4, by kernel_rfl⟩
  · cases h; exact ⟨Try.func5, by kernel_rfl⟩
  · cases h; exact ⟨Try.func6, by kernel_rfl⟩
  · cases h; exact ⟨Try.func7, by kernel_rfl⟩
  · cases h; exact ⟨Try.func8, by kernel_rfl⟩
  · cases h; exact ⟨Try.func9, by kernel_rfl⟩
  · cases h; exact ⟨Try.func10, by kernel_rfl⟩
  · cases h; exact ⟨Try.func11, by kernel_rfl⟩
  · cases h; exact ⟨Try.func12, by kernel_rfl⟩
  · cases h; exact ⟨Try.func13, by kernel_rfl⟩
  · cases h; exact ⟨Try.func14, by kernel_rfl⟩
  · cases h; exact ⟨Try.func15, by kernel_rfl⟩
  · cases h; exact ⟨Try.func16, by kernel_rfl⟩
  · cases h; exact ⟨Try.func17, by kernel_rfl⟩
  · cases h; exact ⟨Try.func18, by kernel_rfl⟩
  · cases h; exact ⟨Try.func19, by kernel_rfl⟩
  · cases h; exact ⟨Try.func20, by kernel_rfl⟩
  · cases h; exact ⟨Try.func21, by kernel_rfl⟩
  · cases h; exact ⟨Try.func22, by kernel_rfl⟩
  · cases h; exact ⟨Try.func23, by kernel_rfl⟩
  · cases h; exact ⟨Try.func24, by kernel_rfl⟩
  · cases h; exact ⟨Try.func25, by kernel_rfl⟩
  · cases h; exact ⟨Try.func26, by kernel_rfl⟩
  · cases h; exact ⟨Try.func27, by kernel_rfl⟩
  · cases h; exact ⟨Try.func28, by kernel_rfl⟩
  · cases h; exact ⟨Try.func29, by kernel_rfl⟩
  · cases h; exact ⟨Try.func30, by kernel_rfl⟩
  · cases h; exact ⟨Try.func31, by kernel_rfl⟩
  · cases h; exact ⟨Try.func32, by kernel_rfl⟩
  · cases h; exact ⟨Try.func33, by kernel_rfl⟩
  · cases h; exact ⟨Try.func34, by kernel_rfl⟩
  · cases h; exact ⟨Try.func35, by kernel_rfl⟩
  · cases h; exact ⟨Try.func36, by kernel_rfl⟩
  · cases h; exact ⟨Try.func37, by kernel_rfl⟩
  · cases h; exact ⟨Try.func38, by kernel_rfl⟩
  · cases h; exact ⟨Try.func39, by kernel_rfl⟩
  · cases h; exact ⟨Try.func40, by kernel_rfl⟩
  · cases h; exact ⟨Try.func41, by kernel_rfl⟩
  · cases h; exact ⟨Try.func42, by kernel_rfl⟩
  · cases h; exact ⟨Try.func43, by kernel_rfl⟩
  · cases h; exact ⟨Try.func44, by kernel_rfl⟩
  · cases h; exact ⟨Try.func45, by kernel_rfl⟩
  · cases h; exact ⟨Try.func46, by kernel_rfl⟩
  · cases h; exact ⟨Try.func47, by kernel_rfl⟩
  · cases h; exact ⟨Try.func48, by kernel_rfl⟩
  · cases h; exact ⟨Try.func49, by kernel_rfl⟩
  · cases h; exact ⟨Try.func50, by kernel_rfl⟩
  · cases h; exact ⟨Try.func51, by kernel_rfl⟩
  · cases h; exact ⟨Try.func52, by kernel_rfl⟩
  · cases h; exact ⟨Try.func53, by kernel_rfl⟩
  · cases h; exact ⟨Try.func54, by kernel_rfl⟩
  · cases h; exact ⟨Try.func55, by kernel_rfl⟩
  · cases h; exact ⟨Try.func56, by kernel_rfl⟩
  · cases h; exact ⟨Try.func57, by kernel_rfl⟩
  · cases h; exact ⟨Try.func58, by kernel_rfl⟩
  · cases h; exact ⟨Try.func59, by kernel_rfl⟩
  · cases h; exact ⟨Try.func60, by kernel_rfl⟩
  · cases h; exact ⟨Try.func61, by kernel_rfl⟩
  · cases h
end Go.Proofs.Ytcmmchpofkoddaa.Ex

/- Contracts of intervals: what is asked. -/
namespace Go.Proofs.Ytcmmchpofkoddaa.Ex
abbrev I := Int × Int
def aI (x : I) : AV := .agg [.int .i64 x.1, .int .i64 x.2]
def aN (n : Int) : AV := .int .i64 n
def gI : AV → Option I
  | .agg [.int .i64 a, .int .i64 b] => some (a, b)
  | _ => none
def gN : AV → Option Int
  | .int .i64 n => some n
  | _ => none
theorem gI_some {v : AV} {x : I} (e : gI v = some x) : v = aI x := by
  unfold gI at e
  split at e
  · cases e; rfl
  · cases e
theorem gN_some {v : AV} {n : Int} (e : gN v = some n) : v = aN n := by
  unfold gN at e
  split at e
  · cases e; rfl
  · cases e
def tI : Ty := .st (.pair (.int .i64) (.int .i64))
def retV (v : AV) : Option (Bool × AV × List Blk) := some (true, v, [])
noncomputable def ev (cx : Ctx) (g : FuncId) (args : List AV) : Option (AV × Hp) := run ((evF cx keeps 3 g args).bind (finP true)) false ⟨[], 0⟩ ⟨[], []⟩ fun v h _ => some (v, h)
def outV (v : AV) : Option (AV × Hp) := some (v, ⟨[], 0⟩)
theorem ev_ex {cx : Ctx} {g : FuncId} {args : List AV} {v : AV} (e : ev cx g args = outV v) : ∃ fb, ex ((evF cx keeps 3 g args).bind (finP true)) false ⟨[], 0⟩ ⟨[], []⟩ = some (v, ⟨enumB 0 [], List.length ([] : List Blk)⟩, fb) := by
  unfold ev at e
  rw [run_ex] at e
  obtain ⟨⟨v', h', f'⟩, h1, h2⟩ := Option.bind_eq_some_iff.1 e
  cases h2
  exact ⟨f', h1⟩
def nn : I := (1, 0)
def aa : I := (-2147483648, 2147483647)
def empB (x : I) : Bool := decide (x.1 > x.2)
def fitB (n : Int) : Bool := decide (n ≥ -2147483648) && decide (n ≤ 2147483647)
def isB (x : I) : Bool := (x.1 == 1 && x.2 == 0) || (decide (x.1 ≤ x.2) && (fitB x.1 && fitB x.2))
def leqB (x y : I) : Bool := empB x || (decide (x.1 ≥ y.1) && decide (x.2 ≤ y.2))
def hasB (x : I) (n : Int) : Bool := decide (n ≥ x.1) && decide (n ≤ x.2)
def mn (a b : Int) : Int := if b < a then b else a
def mx (a b : Int) : Int := if b > a then b else a
def iMeet (x y : I) : I := if empB x then nn else if empB y then nn else if empB (mx x.1 y.1, mn x.2 y.2) then nn else (mx x.1 y.1, mn x.2 y.2)
def iJoin (x y : I) : I := if empB x then (if empB y then nn else y) else if empB y then x else (mn x.1 y.1, mx x.2 y.2)
def rJoin (x y : I) : I := if empB x then y else if empB y then x else (mn x.1 y.1, mx x.2 y.2)
def iSpan (a b : Int) : I := if a > b then nn else (a, b)
end Go.Proofs.Ytcmmchpofkoddaa.Ex

/- Contracts, level 0. -/
namespace Go.Proofs.Ytcmmchpofkoddaa.Ex
open Go.Proofs Go.Proofs.Ytcmmchpofkoddaa
set_option maxRecDepth 100000
set_option linter.unusedSimpArgs false
set_option linter.unusedVariables false
def sp0 : Nat → Option (List AV → Prog AV)
  | _ => none
noncomputable def cx0 : Ctx := { tab := tab, spec := sp0, inl := inl, lps := fun _ _ => none, fuel := 10 }
theorem hsp0 : ∀ g p, cx0.spec g = some p → SoundA Try.prog g p := by
  intro g p h
  change sp0 g = some p at h
  unfold sp0 at h
  split at h
  · cases h
theorem in0 : InlOk Try.prog cx0 := ⟨inl_ok, fun _ _ _ _ _ _ _ _ h => nomatch h⟩
theorem cal0 (g : Nat) : SoundA Try.prog g (evF cx0 keeps 3 g) := evF_sound (tabOk_of tab_ok) (cmpsOk_of tab_ok cmps_ok) mixed in0 hsp0 keeps 3 g
end Go.Proofs.Ytcmmchpofkoddaa.Ex

/- What is run, level 0. -/
namespace Go.Proofs.Ytcmmchpofkoddaa.Ex
open Go.Proofs Go.Proofs.Ytcmmchpofkoddaa
set_option maxRecDepth 100000
theorem raw31 (x : I) : ev cx0 31 [aI x] =
  Option.some (Go.Proofs.Ytcmmchpofkoddaa.Ex.AV.bool (Decidable.decide (x.fst > x.snd)), { blks := [], c := 0 }) := by kernel_rfl
theorem raw20 (x : I) : ev cx0 20 [aI x] =
  Option.some (Go.Proofs.Ytcmmchpofkoddaa.Ex.AV.bool (Decidable.decide (x.fst > x.snd)), { blks := [], c := 0 }) := by kernel_rfl
theorem raw39  : ev cx0 39 [] =
  Option.some (Go.Proofs.Ytcmmchpofkoddaa.Ex.AV.agg [Go.Proofs.Ytcmmchpofkoddaa.Ex.AV.int Go.IntKind.i64 1, Go.Proofs.Ytcmmchpofkoddaa.Ex.AV.int Go.IntKind.i64 0], { blks := [], c := 0 }) := by kernel_rfl
theorem raw51  : ev cx0 51 [] =
  Option.some (Go.Proofs.Ytcmmchpofkoddaa.Ex.AV.agg [Go.Proofs.Ytcmmchpofkoddaa.Ex.AV.int Go.IntKind.i64 1, Go.Proofs.Ytcmmchpofkoddaa.Ex.AV.int Go.IntKind.i64 0], { blks := [], c := 0 }) := by kernel_rfl
theorem raw37  : ev cx0 37 [] =
  Option.some (Go.Proofs.Ytcmmchpofkoddaa.Ex.AV.agg [Go.Proofs.Ytcmmchpofkoddaa.Ex.AV.int Go.IntKind.i64 (-2147483648), Go.Proofs.Ytcmmchpofkoddaa.Ex.AV.int Go.IntKind.i64 2147483647], { blks := [], c := 0 }) := by kernel_rfl
theorem raw38  : ev cx0 38 [] =
  Option.some (Go.Proofs.Ytcmmchpofkoddaa.Ex.AV.agg [Go.Proofs.Ytcmmchpofkoddaa.Ex.AV.int Go.IntKind.i64 (-2147483648), Go.Proofs.Ytcmmchpofkoddaa.Ex.AV.int Go.IntKind.i64 2147483647], { blks := [], c := 0 }) := by kernel_rfl
theorem raw29 (n : Int) : ev cx0 29 [aN n] =
  bif Decidable.decide (n ≥ -2147483648) then Option.some (Go.Proofs.Ytcmmchpofkoddaa.Ex.AV.bool (Decidable.decide (n ≤ 2147483647)), { blks := [], c := 0 }) else Option.some (Go.Proofs.Ytcmmchpofkoddaa.Ex.AV.bool Bool.false, { blks := [], c := 0 }) := by kernel_rfl
theorem raw23 (x : I) (n : Int) : ev cx0 23 [aI x, aN n] =
  bif Decidable.decide (n ≥ x.fst) then Option.some (Go.Proofs.Ytcmmchpofkoddaa.Ex.AV.bool (Decidable.decide (n ≤ x.snd)), { blks := [], c := 0 }) else Option.some (Go.Proofs.Ytcmmchpofkoddaa.Ex.AV.bool Bool.false, { blks := [], c := 0 }) := by kernel_rfl
theorem raw33 (x : I) (n : Int) : ev cx0 33 [aI x, aN n] =
  bif Decidable.decide (n ≥ x.fst) then Option.some (Go.Proofs.Ytcmmchpofkoddaa.Ex.AV.bool (Decidable.decide (n ≤ x.snd)), { blks := [], c := 0 }) else Option.some (Go.Proofs.Ytcmmchpofkoddaa.Ex.AV.bool Bool.false, { blks := [], c := 0 }) := by kernel_rfl
theorem raw58 (n : Int) : ev cx0 58 [aN n] =
  Option.some (Go.Proofs.Ytcmmchpofkoddaa.Ex.AV.agg [Go.Proofs.Ytcmmchpofkoddaa.Ex.AV.int Go.IntKind.i64 n, Go.Proofs.Ytcmmchpofkoddaa.Ex.AV.int Go.IntKind.i64 n], { blks := [], c := 0 }) := by kernel_rfl
end Go.Proofs.Ytcmmchpofkoddaa.Ex

/- Contracts, level 0. -/
namespace Go.Proofs.Ytcmmchpofkoddaa.Ex
open Go.Proofs Go.Proofs.Ytcmmchpofkoddaa
set_option maxRecDepth 100000
set_option linter.unusedSimpArgs false
set_option linter.unusedVariables false
theorem ok31 (x : I) : ev cx0 31 [aI x] = outV (.bool (empB x)) := by
  rw [raw31]
  rfl
theorem ok20 (x : I) : ev cx0 20 [aI x] = outV (.bool (empB x)) := by
  rw [raw20]
  rfl
theorem ok39  : ev cx0 39 [] = outV (aI nn) := by
  rw [raw39]
  rfl
theorem ok51  : ev cx0 51 [] = outV (aI nn) := by
  rw [raw51]
  rfl
theorem ok37  : ev cx0 37 [] = outV (aI aa) := by
  rw [raw37]
  rfl
theorem ok38  : ev cx0 38 [] = outV (aI aa) := by
  rw [raw38]
  rfl
theorem ok29 (n : Int) : ev cx0 29 [aN n] = outV (.bool (fitB n)) := by
  rw [raw29]
  unfold fitB; cases decide (n ≥ -2147483648) <;> rfl
theorem ok23 (x : I) (n : Int) : ev cx0 23 [aI x, aN n] = outV (.bool (hasB x n)) := by
  rw [raw23]
  unfold hasB; cases decide (n ≥ x.1) <;> rfl
theorem ok33 (x : I) (n : Int) : ev cx0 33 [aI x, aN n] = outV (.bool (hasB x n)) := by
  rw [raw33]
  unfold hasB; cases decide (n ≥ x.1) <;> rfl
theorem ok58 (n : Int) : ev cx0 58 [aN n] = outV (aI (n, n)) := by
  rw [raw58]
  rfl
def M31 : List AV → Option (Bool × AV × List Blk)
  | [v_x] => (gI v_x).bind fun x => some (true, .bool (empB x), [])
  | _ => none
theorem hM31 (args : List AV) (v : AV) (bs : List Blk) (h : M31 args = some (true, v, bs)) : AV.idsL args = [] ∧ (true = true ∨ (plainV v = true ∧ bs.all plainB = true)) ∧ ∃ fb, ex ((evF cx0 keeps 3 31 args).bind (finP true)) false ⟨[], 0⟩ ⟨[], []⟩ = some (v, ⟨enumB 0 bs, bs.length⟩, fb) := by
  unfold M31 at h
  split at h
  · obtain ⟨x, h_x, h0⟩ := Option.bind_eq_some_iff.1 h
    simp only [Option.some.injEq, Prod.mk.injEq] at h0
    obtain ⟨_, rfl, rfl⟩ := h0
    have e_x := gI_some h_x
    subst e_x
    exact ⟨rfl, .inl rfl, ev_ex (ok31 x)⟩
  · cases h
theorem snd31 : SoundA Try.prog 31 (specP true M31) := soundA_spec (fz := true) (cal0 31) hM31
def M20 : List AV → Option (Bool × AV × List Blk)
  | [v_x] => (gI v_x).bind fun x => some (true, .bool (empB x), [])
  | _ => none
theorem hM20 (args : List AV) (v : AV) (bs : List Blk) (h : M20 args = some (true, v, bs)) : AV.idsL args = [] ∧ (true = true ∨ (plainV v = true ∧ bs.all plainB = true)) ∧ ∃ fb, ex ((evF cx0 keeps 3 20 args).bind (finP true)) false ⟨[], 0⟩ ⟨[], []⟩ = some (v, ⟨enumB 0 bs, bs.length⟩, fb) := by
  unfold M20 at h
  split at h
  · obtain ⟨x, h_x, h0⟩ := Option.bind_eq_some_iff.1 h
    simp only [Option.some.injEq, Prod.mk.injEq] at h0
    obtain ⟨_, rfl, rfl⟩ := h0
    have e_x := gI_some h_x
    subst e_x
    exact ⟨rfl, .inl rfl, ev_ex (ok20 x)⟩
  · cases h
theorem snd20 : SoundA Try.prog 20 (specP true M20) := soundA_spec (fz := true) (cal0 20) hM20
def M39 : List AV → Option (Bool × AV × List Blk)
  | [] => some (true, aI nn, [])
  | _ => none
theorem hM39 (args : List AV) (v : AV) (bs : List Blk) (h : M39 args = some (true, v, bs)) : AV.idsL args = [] ∧ (true = true ∨ (plainV v = true ∧ bs.all plainB = true)) ∧ ∃ fb, ex ((evF cx0 keeps 3 39 args).bind (finP true)) false ⟨[], 0⟩ ⟨[], []⟩ = some (v, ⟨enumB 0 bs, bs.length⟩, fb) := by
  unfold M39 at h
  split at h
  · have h0 := h
    have h0 : (true, _, _) = (true, v, bs) := Option.some.inj h0
    simp only [Prod.mk.injEq] at h0
    obtain ⟨_, rfl, rfl⟩ := h0
    exact ⟨rfl, .inl rfl, ev_ex (ok39 )⟩
  · cases h
theorem snd39 : SoundA Try.prog 39 (specP true M39) := soundA_spec (fz := true) (cal0 39) hM39
def M51 : List AV → Option (Bool × AV × List Blk)
  | [] => some (true, aI nn, [])
  | _ => none
theorem hM51 (args : List AV) (v : AV) (bs : List Blk) (h : M51 args = some (true, v, bs)) : AV.idsL args = [] ∧ (true = true ∨ (plainV v = true ∧ bs.all plainB = true)) ∧ ∃ fb, ex ((evF cx0 keeps 3 51 args).bind (finP true)) false ⟨[], 0⟩ ⟨[], []⟩ = some (v, ⟨enumB 0 bs, bs.length⟩, fb) := by
  unfold M51 at h
  split at h
  · have h0 := h
    have h0 : (true, _, _) = (true, v, bs) := Option.some.inj h0
    simp only [Prod.mk.injEq] at h0
    obtain ⟨_, rfl, rfl⟩ := h0
    exact ⟨rfl, .inl rfl, ev_ex (ok51 )⟩
  · cases h
theorem snd51 : SoundA Try.prog 51 (specP true M51) := soundA_spec (fz := true) (cal0 51) hM51
def M37 : List AV → Option (Bool × AV × List Blk)
  | [] => some (true, aI aa, [])
  | _ => none
theorem hM37 (args : List AV) (v : AV) (bs : List Blk) (h : M37 args = some (true, v, bs)) : AV.idsL args = [] ∧ (true = true ∨ (plainV v = true ∧ bs.all plainB = true)) ∧ ∃ fb, ex ((evF cx0 keeps 3 37 args).bind (finP true)) false ⟨[], 0⟩ ⟨[], []⟩ = some (v, ⟨enumB 0 bs, bs.length⟩, fb) := by
  unfold M37 at h
  split at h
  · have h0 := h
    have h0 : (true, _, _) = (true, v, bs) := Option.some.inj h0
    simp only [Prod.mk.injEq] at h0
    obtain ⟨_, rfl, rfl⟩ := h0
    exact ⟨rfl, .inl rfl, ev_ex (ok37 )⟩
  · cases h
theorem snd37 : SoundA Try.prog 37 (specP true M37) := soundA_spec (fz := true) (cal0 37) hM37
def M38 : List AV → Option (Bool × AV × List Blk)
  | [] => some (true, aI aa, [])
  | _ => none
theorem hM38 (args : List AV) (v : AV) (bs : List Blk) (h : M38 args = some (true, v, bs)) : AV.idsL args = [] ∧ (true = true ∨ (plainV v = true ∧ bs.all plainB = true)) ∧ ∃ fb, ex ((evF cx0 keeps 3 38 args).bind (finP true)) false ⟨[], 0⟩ ⟨[], []⟩ = some (v, ⟨enumB 0 bs, bs.length⟩, fb) := by
  unfold M38 at h
  split at h
  · have h0 := h
    have h0 : (true, _, _) = (true, v, bs) := Option.some.inj h0
    simp only [Prod.mk.injEq] at h0
    obtain ⟨_, rfl, rfl⟩ := h0
    exact ⟨rfl, .inl rfl, ev_ex (ok38 )⟩
  · cases h
theorem snd38 : SoundA Try.prog 38 (specP true M38) := soundA_spec (fz := true) (cal0 38) hM38
def M29 : List AV → Option (Bool × AV × List Blk)
  | [v_n] => (gN v_n).bind fun n => some (true, .bool (fitB n), [])
  | _ => none
theorem hM29 (args : List AV) (v : AV) (bs : List Blk) (h : M29 args = some (true, v, bs)) : AV.idsL args = [] ∧ (true = true ∨ (plainV v = true ∧ bs.all plainB = true)) ∧ ∃ fb, ex ((evF cx0 keeps 3 29 args).bind (finP true)) false ⟨[], 0⟩ ⟨[], []⟩ = some (v, ⟨enumB 0 bs, bs.length⟩, fb) := by
  unfold M29 at h
  split at h
  · obtain ⟨n, h_n, h0⟩ := Option.bind_eq_some_iff.1 h
    simp only [Option.some.injEq, Prod.mk.injEq] at h0
    obtain ⟨_, rfl, rfl⟩ := h0
    have e_n := gN_some h_n
    subst e_n
    exact ⟨rfl, .inl rfl, ev_ex (ok29 n)⟩
  · cases h
theorem snd29 : SoundA Try.prog 29 (specP true M29) := soundA_spec (fz := true) (cal0 29) hM29
def M23 : List AV → Option (Bool × AV × List Blk)
  | [v_x, v_n] => (gI v_x).bind fun x => (gN v_n).bind fun n => some (true, .bool (hasB x n), [])
  | _ => none
theorem hM23 (args : List AV) (v : AV) (bs : List Blk) (h : M23 args = some (true, v, bs)) : AV.idsL args = [] ∧ (true = true ∨ (plainV v = true ∧ bs.all plainB = true)) ∧ ∃ fb, ex ((evF cx0 keeps 3 23 args).bind (finP true)) false ⟨[], 0⟩ ⟨[], []⟩ = some (v, ⟨enumB 0 bs, bs.length⟩, fb) := by
  unfold M23 at h
  split at h
  · obtain ⟨x, h_x, h0⟩ := Option.bind_eq_some_iff.1 h
    obtain ⟨n, h_n, h1⟩ := Option.bind_eq_some_iff.1 h0
    simp only [Option.some.injEq, Prod.mk.injEq] at h1
    obtain ⟨_, rfl, rfl⟩ := h1
    have e_x := gI_some h_x
    have e_n := gN_some h_n
    subst e_x e_n
    exact ⟨rfl, .inl rfl, ev_ex (ok23 x n)⟩
  · cases h
theorem snd23 : SoundA Try.prog 23 (specP true M23) := soundA_spec (fz := true) (cal0 23) hM23
def M33 : List AV → Option (Bool × AV × List Blk)
  | [v_x, v_n] => (gI v_x).bind fun x => (gN v_n).bind fun n => some (true, .bool (hasB x n), [])
  | _ => none
theorem hM33 (args : List AV) (v : AV) (bs : List Blk) (h : M33 args = some (true, v, bs)) : AV.idsL args = [] ∧ (true = true ∨ (plainV v = true ∧ bs.all plainB = true)) ∧ ∃ fb, ex ((evF cx0 keeps 3 33 args).bind (finP true)) false ⟨[], 0⟩ ⟨[], []⟩ = some (v, ⟨enumB 0 bs, bs.length⟩, fb) := by
  unfold M33 at h
  split at h
  · obtain ⟨x, h_x, h0⟩ := Option.bind_eq_some_iff.1 h
    obtain ⟨n, h_n, h1⟩ := Option.bind_eq_some_iff.1 h0
    simp only [Option.some.injEq, Prod.mk.injEq] at h1
    obtain ⟨_, rfl, rfl⟩ := h1
    have e_x := gI_some h_x
    have e_n := gN_some h_n
    subst e_x e_n
    exact ⟨rfl, .inl rfl, ev_ex (ok33 x n)⟩
  · cases h
theorem snd33 : SoundA Try.prog 33 (specP true M33) := soundA_spec (fz := true) (cal0 33) hM33
def M58 : List AV → Option (Bool × AV × List Blk)
  | [v_n] => (gN v_n).bind fun n => some (true, aI (n, n), [])
  | _ => none
theorem hM58 (args : List AV) (v : AV) (bs : List Blk) (h : M58 args = some (true, v, bs)) : AV.idsL args = [] ∧ (true = true ∨ (plainV v = true ∧ bs.all plainB = true)) ∧ ∃ fb, ex ((evF cx0 keeps 3 58 args).bind (finP true)) false ⟨[], 0⟩ ⟨[], []⟩ = some (v, ⟨enumB 0 bs, bs.length⟩, fb) := by
  unfold M58 at h
  split at h
  · obtain ⟨n, h_n, h0⟩ := Option.bind_eq_some_iff.1 h
    simp only [Option.some.injEq, Prod.mk.injEq] at h0
    obtain ⟨_, rfl, rfl⟩ := h0
    have e_n := gN_some h_n
    subst e_n
    exact ⟨rfl, .inl rfl, ev_ex (ok58 n)⟩
  · cases h
theorem snd58 : SoundA Try.prog 58 (specP true M58) := soundA_spec (fz := true) (cal0 58) hM58
end Go.Proofs.Ytcmmchpofkoddaa.Ex

/- More of what is asked. -/
namespace Go.Proofs.Ytcmmchpofkoddaa.Ex
def gL2 : AV → Option (I × I)
  | .sl (.st (.pair (.int .i64) (.int .i64))) l => match l with
    | [a, b] => some (show I × I from (a, b))
    | _ => none
  | _ => none
def aL2 (x : I × I) : AV := .sl tI [x.1, x.2]
theorem gL2_some {v : AV} {x : I × I} (e : gL2 v = some x) : v = aL2 x := by
  unfold gL2 at e
  split at e
  · split at e
    · cases e; rfl
    · cases e
  · cases e
def gM1 : AV → Option Int
  | .sl (.int .i64) l => match l with
    | [a] => some (show Int from a)
    | _ => none
  | _ => none
def aM1 (x : Int) : AV := .sl (.int .i64) [x]
theorem gM1_some {v : AV} {x : Int} (e : gM1 v = some x) : v = aM1 x := by
  unfold gM1 at e
  split at e
  · split at e
    · cases e; rfl
    · cases e
  · cases e
def gM2 : AV → Option (Int × Int)
  | .sl (.int .i64) l => match l with
    | [a, b] => some (show Int × Int from (a, b))
    | _ => none
  | _ => none
def aM2 (x : Int × Int) : AV := .sl (.int .i64) [x.1, x.2]
theorem gM2_some {v : AV} {x : Int × Int} (e : gM2 v = some x) : v = aM2 x := by
  unfold gM2 at e
  split at e
  · split at e
    · cases e; rfl
    · cases e
  · cases e
def gB : AV → Option Bool
  | .bool b => some b
  | _ => none
theorem gB_some {v : AV} {x : Bool} (e : gB v = some x) : v = .bool x := by
  unfold gB at e
  split at e
  · cases e; rfl
  · cases e
theorem wrap_id {n : Int} (h : -9223372036854775808 ≤ n) (h' : n ≤ 9223372036854775807) : IntKind.i64.wrap n = n := by
  have : IntKind.i64.wrap n = (n + 9223372036854775808) % 18446744073709551616 - 9223372036854775808 := by
    simp [IntKind.wrap, IntKind.signed, IntKind.bits]
    split <;> omega
  rw [this]; omega
theorem wr {n : Int} (h : n.natAbs ≤ 4611686018427387904) : IntKind.i64.wrap n = n := wrap_id (by omega) (by omega)
theorem mul_abs {a b : Int} (ha : a.natAbs ≤ 2147483648) (hb : b.natAbs ≤ 2147483648) : (a * b).natAbs ≤ 4611686018427387904 := by
  rw [Int.natAbs_mul]
  exact Nat.mul_le_mul ha hb
theorem div_abs {a b : Int} {n : Nat} (ha : a.natAbs ≤ n) : (a.tdiv b).natAbs ≤ n := by
  rw [Int.natAbs_tdiv]
  exact Nat.le_trans (Nat.div_le_self _ _) ha
theorem mod_abs {a b : Int} {n : Nat} (ha : a.natAbs ≤ n) : (a.tmod b).natAbs ≤ n := by
  rw [Int.natAbs_tmod]
  exact Nat.le_trans (Nat.mod_le _ _) ha
theorem mod_lt {a b : Int} (hb : b ≠ 0) : (a.tmod b).natAbs < b.natAbs := by
  rw [Int.natAbs_tmod]
  exact Nat.mod_lt _ (by omega)
theorem fit_abs {a : Int} (h : fitB a = true) : a.natAbs ≤ 2147483648 := by
  simp only [fitB, Bool.and_eq_true, decide_eq_true_eq] at h; omega
theorem isB_abs {x : I} (h : isB x = true) : x.1.natAbs ≤ 2147483648 ∧ x.2.natAbs ≤ 2147483648 := by
  simp only [isB, fitB, Bool.and_eq_true, Bool.or_eq_true, decide_eq_true_eq, beq_iff_eq] at h; omega
theorem mn_def (a b : Int) : (if b < a then b else a) = mn a b := rfl
theorem mx_def (a b : Int) : (if b > a then b else a) = mx a b := rfl
def mul4 (x y : I) : I := (mn (mn (mn (x.1 * y.1) (x.1 * y.2)) (x.2 * y.1)) (x.2 * y.2), mx (mx (mx (x.1 * y.1) (x.1 * y.2)) (x.2 * y.1)) (x.2 * y.2))
def div4 (x y : I) : I := (mn (mn (mn (x.1.tdiv y.1) (x.1.tdiv y.2)) (x.2.tdiv y.1)) (x.2.tdiv y.2), mx (mx (mx (x.1.tdiv y.1) (x.1.tdiv y.2)) (x.2.tdiv y.1)) (x.2.tdiv y.2))
def pickV (x : I) (n : Int) : Int := x.1 + ((n.tmod (x.2 - x.1 + 1)) + (x.2 - x.1 + 1)).tmod (x.2 - x.1 + 1)
def noZ (y : I) : Bool := !(y.1 == 0) && !(y.2 == 0)
def doR (op a b : Int) : Int × Int :=
  if !fitB a || !fitB b || decide (op < 1) || decide (op > 5) then (0, 1) else if decide (op ≥ 4) && b == 0 then (0, 8) else
  let n := if op = 1 then a + b else if op = 2 then a - b else if op = 3 then a * b else if op = 4 then a.tdiv b else a.tmod b
  if fitB n then (n, 0) else (0, 7)
def relR (r a b : Int) : Bool := if r = 1 then decide (a < b) else if r = 2 then decide (a ≤ b) else if r = 3 then a == b else if r = 4 then a != b else if r = 5 then decide (a ≥ b) else if r = 6 then decide (a > b) else false
def wout (x y : I) : I := if y.1 = y.2 then (if x.1 = y.1 then (x.1 + 1, x.2) else if x.2 = y.1 then (x.1, x.2 - 1) else x) else x
def remI (x y : I) : I := if y.1 = 0 ∧ y.2 = 0 then nn else
  let m := mx (mx (mx y.2 (-y.2)) y.1) (-y.1) - 1
  (if x.1 < 0 then mx x.1 (-m) else 0, if x.2 > 0 then mn x.2 m else 0)
end Go.Proofs.Ytcmmchpofkoddaa.Ex

/- Contracts, level 1. -/
namespace Go.Proofs.Ytcmmchpofkoddaa.Ex
open Go.Proofs Go.Proofs.Ytcmmchpofkoddaa
set_option maxRecDepth 100000
set_option linter.unusedSimpArgs false
set_option linter.unusedVariables false
def sp1 : Nat → Option (List AV → Prog AV)
  | 31 => some (specP true M31)
  | 20 => some (specP true M20)
  | 39 => some (specP true M39)
  | 51 => some (specP true M51)
  | 37 => some (specP true M37)
  | 38 => some (specP true M38)
  | 29 => some (specP true M29)
  | 23 => some (specP true M23)
  | 33 => some (specP true M33)
  | 58 => some (specP true M58)
  | _ => none
noncomputable def cx1 : Ctx := { tab := tab, spec := sp1, inl := inl, lps := fun _ _ => none, fuel := 10 }
theorem hsp1 : ∀ g p, cx1.spec g = some p → SoundA Try.prog g p := by
  intro g p h
  change sp1 g = some p at h
  unfold sp1 at h
  split at h
  · cases h; exact snd31
  · cases h; exact snd20
  · cases h; exact snd39
  · cases h; exact snd51
  · cases h; exact snd37
  · cases h; exact snd38
  · cases h; exact snd29
  · cases h; exact snd23
  · cases h; exact snd33
  · cases h; exact snd58
  · cases h
theorem in1 : InlOk Try.prog cx1 := ⟨inl_ok, fun _ _ _ _ _ _ _ _ h => nomatch h⟩
theorem cal1 (g : Nat) : SoundA Try.prog g (evF cx1 keeps 3 g) := evF_sound (tabOk_of tab_ok) (cmpsOk_of tab_ok cmps_ok) mixed in1 hsp1 keeps 3 g
end Go.Proofs.Ytcmmchpofkoddaa.Ex

/- What is run, level 1. -/
namespace Go.Proofs.Ytcmmchpofkoddaa.Ex
open Go.Proofs Go.Proofs.Ytcmmchpofkoddaa
set_option maxRecDepth 100000
theorem raw26 (x : I) (y : I) : ev cx1 26 [aI x, aI y] =
  bif Go.Proofs.Ytcmmchpofkoddaa.Ex.empB x then Option.some (Go.Proofs.Ytcmmchpofkoddaa.Ex.AV.agg [Go.Proofs.Ytcmmchpofkoddaa.Ex.AV.int Go.IntKind.i64 Go.Proofs.Ytcmmchpofkoddaa.Ex.nn.fst, Go.Proofs.Ytcmmchpofkoddaa.Ex.AV.int Go.IntKind.i64 Go.Proofs.Ytcmmchpofkoddaa.Ex.nn.snd], { blks := [], c := 0 })
  else
    bif Go.Proofs.Ytcmmchpofkoddaa.Ex.empB y then Option.some (Go.Proofs.Ytcmmchpofkoddaa.Ex.AV.agg [Go.Proofs.Ytcmmchpofkoddaa.Ex.AV.int Go.IntKind.i64 Go.Proofs.Ytcmmchpofkoddaa.Ex.nn.fst, Go.Proofs.Ytcmmchpofkoddaa.Ex.AV.int Go.IntKind.i64 Go.Proofs.Ytcmmchpofkoddaa.Ex.nn.snd], { blks := [], c := 0 })
    else
      bif Go.Proofs.Ytcmmchpofkoddaa.Ex.empB (if y.fst > x.fst then y.fst else x.fst, if y.snd < x.snd then y.snd else x.snd) then
        Option.some (Go.Proofs.Ytcmmchpofkoddaa.Ex.AV.agg [Go.Proofs.Ytcmmchpofkoddaa.Ex.AV.int Go.IntKind.i64 Go.Proofs.Ytcmmchpofkoddaa.Ex.nn.fst, Go.Proofs.Ytcmmchpofkoddaa.Ex.AV.int Go.IntKind.i64 Go.Proofs.Ytcmmchpofkoddaa.Ex.nn.snd], { blks := [], c := 0 })
      else Option.some (Go.Proofs.Ytcmmchpofkoddaa.Ex.AV.agg [Go.Proofs.Ytcmmchpofkoddaa.Ex.AV.int Go.IntKind.i64 (if y.fst > x.fst then y.fst else x.fst), Go.Proofs.Ytcmmchpofkoddaa.Ex.AV.int Go.IntKind.i64 (if y.snd < x.snd then y.snd else x.snd)], { blks := [], c := 0 }) := by kernel_rfl
theorem raw27 (x : I) (y : I) : ev cx1 27 [aI x, aI y] =
  bif Go.Proofs.Ytcmmchpofkoddaa.Ex.empB x then Option.some (Go.Proofs.Ytcmmchpofkoddaa.Ex.AV.bool Bool.true, { blks := [], c := 0 })
  else
    bif Decidable.decide (x.fst ≥ y.fst) then Option.some (Go.Proofs.Ytcmmchpofkoddaa.Ex.AV.bool (Decidable.decide (x.snd ≤ y.snd)), { blks := [], c := 0 }) else Option.some (Go.Proofs.Ytcmmchpofkoddaa.Ex.AV.bool Bool.false, { blks := [], c := 0 }) := by kernel_rfl
theorem raw34 (x : I) (y : I) : ev cx1 34 [aI x, aI y] =
  bif Go.Proofs.Ytcmmchpofkoddaa.Ex.empB x then Option.some (Go.Proofs.Ytcmmchpofkoddaa.Ex.AV.bool Bool.true, { blks := [], c := 0 })
  else
    bif Decidable.decide (x.fst ≥ y.fst) then Option.some (Go.Proofs.Ytcmmchpofkoddaa.Ex.AV.bool (Decidable.decide (x.snd ≤ y.snd)), { blks := [], c := 0 }) else Option.some (Go.Proofs.Ytcmmchpofkoddaa.Ex.AV.bool Bool.false, { blks := [], c := 0 }) := by kernel_rfl
theorem raw24 (x : I) : ev cx1 24 [aI x] =
  bif x.fst == Go.Proofs.Ytcmmchpofkoddaa.Ex.nn.fst && x.snd == Go.Proofs.Ytcmmchpofkoddaa.Ex.nn.snd then Option.some (Go.Proofs.Ytcmmchpofkoddaa.Ex.AV.bool Bool.true, { blks := [], c := 0 })
  else
    bif Decidable.decide (x.fst ≤ x.snd) then
      bif Go.Proofs.Ytcmmchpofkoddaa.Ex.fitB x.fst then Option.some (Go.Proofs.Ytcmmchpofkoddaa.Ex.AV.bool (Go.Proofs.Ytcmmchpofkoddaa.Ex.fitB x.snd), { blks := [], c := 0 }) else Option.some (Go.Proofs.Ytcmmchpofkoddaa.Ex.AV.bool Bool.false, { blks := [], c := 0 })
    else Option.some (Go.Proofs.Ytcmmchpofkoddaa.Ex.AV.bool Bool.false, { blks := [], c := 0 }) := by kernel_rfl
theorem raw28 (x : I) (y : I) : ev cx1 28 [aI x, aI y] =
  bif Go.Proofs.Ytcmmchpofkoddaa.Ex.empB x then Option.some (Go.Proofs.Ytcmmchpofkoddaa.Ex.AV.agg [Go.Proofs.Ytcmmchpofkoddaa.Ex.AV.int Go.IntKind.i64 y.fst, Go.Proofs.Ytcmmchpofkoddaa.Ex.AV.int Go.IntKind.i64 y.snd], { blks := [], c := 0 })
  else
    bif Go.Proofs.Ytcmmchpofkoddaa.Ex.empB y then Option.some (Go.Proofs.Ytcmmchpofkoddaa.Ex.AV.agg [Go.Proofs.Ytcmmchpofkoddaa.Ex.AV.int Go.IntKind.i64 x.fst, Go.Proofs.Ytcmmchpofkoddaa.Ex.AV.int Go.IntKind.i64 x.snd], { blks := [], c := 0 })
    else Option.some (Go.Proofs.Ytcmmchpofkoddaa.Ex.AV.agg [Go.Proofs.Ytcmmchpofkoddaa.Ex.AV.int Go.IntKind.i64 (if y.fst < x.fst then y.fst else x.fst), Go.Proofs.Ytcmmchpofkoddaa.Ex.AV.int Go.IntKind.i64 (if y.snd > x.snd then y.snd else x.snd)], { blks := [], c := 0 }) := by kernel_rfl
theorem raw57 (a : Int) (b : Int) : ev cx1 57 [aN a, aN b] =
  bif Decidable.decide (a > b) then Option.some (Go.Proofs.Ytcmmchpofkoddaa.Ex.AV.agg [Go.Proofs.Ytcmmchpofkoddaa.Ex.AV.int Go.IntKind.i64 Go.Proofs.Ytcmmchpofkoddaa.Ex.nn.fst, Go.Proofs.Ytcmmchpofkoddaa.Ex.AV.int Go.IntKind.i64 Go.Proofs.Ytcmmchpofkoddaa.Ex.nn.snd], { blks := [], c := 0 })
  else Option.some (Go.Proofs.Ytcmmchpofkoddaa.Ex.AV.agg [Go.Proofs.Ytcmmchpofkoddaa.Ex.AV.int Go.IntKind.i64 a, Go.Proofs.Ytcmmchpofkoddaa.Ex.AV.int Go.IntKind.i64 b], { blks := [], c := 0 }) := by kernel_rfl
theorem raw25 (z : I × I) : ev cx1 25 [aL2 z] =
  bif Go.Proofs.Ytcmmchpofkoddaa.Ex.empB z.fst then
    bif Go.Proofs.Ytcmmchpofkoddaa.Ex.empB z.snd then Option.some (Go.Proofs.Ytcmmchpofkoddaa.Ex.AV.agg [Go.Proofs.Ytcmmchpofkoddaa.Ex.AV.int Go.IntKind.i64 Go.Proofs.Ytcmmchpofkoddaa.Ex.nn.fst, Go.Proofs.Ytcmmchpofkoddaa.Ex.AV.int Go.IntKind.i64 Go.Proofs.Ytcmmchpofkoddaa.Ex.nn.snd], { blks := [], c := 0 })
    else Option.some (Go.Proofs.Ytcmmchpofkoddaa.Ex.AV.agg [Go.Proofs.Ytcmmchpofkoddaa.Ex.AV.int Go.IntKind.i64 z.snd.fst, Go.Proofs.Ytcmmchpofkoddaa.Ex.AV.int Go.IntKind.i64 z.snd.snd], { blks := [], c := 0 })
  else
    bif Go.Proofs.Ytcmmchpofkoddaa.Ex.empB z.snd then Option.some (Go.Proofs.Ytcmmchpofkoddaa.Ex.AV.agg [Go.Proofs.Ytcmmchpofkoddaa.Ex.AV.int Go.IntKind.i64 z.fst.fst, Go.Proofs.Ytcmmchpofkoddaa.Ex.AV.int Go.IntKind.i64 z.fst.snd], { blks := [], c := 0 })
    else
      bif Go.Proofs.Ytcmmchpofkoddaa.Ex.empB z.fst then Option.some (Go.Proofs.Ytcmmchpofkoddaa.Ex.AV.agg [Go.Proofs.Ytcmmchpofkoddaa.Ex.AV.int Go.IntKind.i64 z.snd.fst, Go.Proofs.Ytcmmchpofkoddaa.Ex.AV.int Go.IntKind.i64 z.snd.snd], { blks := [], c := 0 })
      else
        Option.some
          (Go.Proofs.Ytcmmchpofkoddaa.Ex.AV.agg [Go.Proofs.Ytcmmchpofkoddaa.Ex.AV.int Go.IntKind.i64 (if z.snd.fst < z.fst.fst then z.snd.fst else z.fst.fst), Go.Proofs.Ytcmmchpofkoddaa.Ex.AV.int Go.IntKind.i64 (if z.snd.snd > z.fst.snd then z.snd.snd else z.fst.snd)],
            { blks := [], c := 0 }) := by kernel_rfl
theorem raw21 (x : I) (n : Int) : ev cx1 21 [aI x, aN n] =
  bif Decidable.decide (Go.IntKind.i64.wrap (Go.IntKind.i64.wrap (x.snd - x.fst) + 1) = 0) then Option.none
  else
    bif Decidable.decide (Go.IntKind.i64.wrap (Go.IntKind.i64.wrap (x.snd - x.fst) + 1) = 0) then Option.none
    else
      Option.some
        (Go.Proofs.Ytcmmchpofkoddaa.Ex.AV.int Go.IntKind.i64
            (Go.IntKind.i64.wrap
              (x.fst +
                (Go.IntKind.i64.wrap (n.tmod (Go.IntKind.i64.wrap (Go.IntKind.i64.wrap (x.snd - x.fst) + 1)) + Go.IntKind.i64.wrap (Go.IntKind.i64.wrap (x.snd - x.fst) + 1))).tmod
                  (Go.IntKind.i64.wrap (Go.IntKind.i64.wrap (x.snd - x.fst) + 1)))),
          { blks := [], c := 0 }) := by kernel_rfl
theorem raw22 (op : Int) (a : Int) (b : Int) : ev cx1 22 [aN op, aN a, aN b] =
  bif !Go.Proofs.Ytcmmchpofkoddaa.Ex.fitB a then Option.some (Go.Proofs.Ytcmmchpofkoddaa.Ex.AV.tup [Go.Proofs.Ytcmmchpofkoddaa.Ex.AV.int Go.IntKind.i64 0, Go.Proofs.Ytcmmchpofkoddaa.Ex.AV.int Go.IntKind.i64 1], { blks := [], c := 0 })
  else
    bif !Go.Proofs.Ytcmmchpofkoddaa.Ex.fitB b then Option.some (Go.Proofs.Ytcmmchpofkoddaa.Ex.AV.tup [Go.Proofs.Ytcmmchpofkoddaa.Ex.AV.int Go.IntKind.i64 0, Go.Proofs.Ytcmmchpofkoddaa.Ex.AV.int Go.IntKind.i64 1], { blks := [], c := 0 })
    else
      bif Decidable.decide (op < 1) then Option.some (Go.Proofs.Ytcmmchpofkoddaa.Ex.AV.tup [Go.Proofs.Ytcmmchpofkoddaa.Ex.AV.int Go.IntKind.i64 0, Go.Proofs.Ytcmmchpofkoddaa.Ex.AV.int Go.IntKind.i64 1], { blks := [], c := 0 })
      else
        bif Decidable.decide (op > 5) then Option.some (Go.Proofs.Ytcmmchpofkoddaa.Ex.AV.tup [Go.Proofs.Ytcmmchpofkoddaa.Ex.AV.int Go.IntKind.i64 0, Go.Proofs.Ytcmmchpofkoddaa.Ex.AV.int Go.IntKind.i64 1], { blks := [], c := 0 })
        else
          bif Decidable.decide (op ≥ 4) then
            bif b == 0 then Option.some (Go.Proofs.Ytcmmchpofkoddaa.Ex.AV.tup [Go.Proofs.Ytcmmchpofkoddaa.Ex.AV.int Go.IntKind.i64 0, Go.Proofs.Ytcmmchpofkoddaa.Ex.AV.int Go.IntKind.i64 8], { blks := [], c := 0 })
            else
              bif op == 1 then
                bif !Go.Proofs.Ytcmmchpofkoddaa.Ex.fitB (Go.IntKind.i64.wrap (a + b)) then Option.some (Go.Proofs.Ytcmmchpofkoddaa.Ex.AV.tup [Go.Proofs.Ytcmmchpofkoddaa.Ex.AV.int Go.IntKind.i64 0, Go.Proofs.Ytcmmchpofkoddaa.Ex.AV.int Go.IntKind.i64 7], { blks := [], c := 0 })
                else Option.some (Go.Proofs.Ytcmmchpofkoddaa.Ex.AV.tup [Go.Proofs.Ytcmmchpofkoddaa.Ex.AV.int Go.IntKind.i64 (Go.IntKind.i64.wrap (a + b)), Go.Proofs.Ytcmmchpofkoddaa.Ex.AV.int Go.IntKind.i64 0], { blks := [], c := 0 })
              else
                bif op == 2 then
                  bif !Go.Proofs.Ytcmmchpofkoddaa.Ex.fitB (Go.IntKind.i64.wrap (a - b)) then Option.some (Go.Proofs.Ytcmmchpofkoddaa.Ex.AV.tup [Go.Proofs.Ytcmmchpofkoddaa.Ex.AV.int Go.IntKind.i64 0, Go.Proofs.Ytcmmchpofkoddaa.Ex.AV.int Go.IntKind.i64 7], { blks := [], c := 0 })
                  else Option.some (Go.Proofs.Ytcmmchpofkoddaa.Ex.AV.tup [Go.Proofs.Ytcmmchpofkoddaa.Ex.AV.int Go.IntKind.i64 (Go.IntKind.i64.wrap (a - b)), Go.Proofs.Ytcmmchpofkoddaa.Ex.AV.int Go.IntKind.i64 0], { blks := [], c := 0 })
                else
                  bif op == 3 then
                    bif !Go.Proofs.Ytcmmchpofkoddaa.Ex.fitB (Go.IntKind.i64.wrap (a * b)) then Option.some (Go.Proofs.Ytcmmchpofkoddaa.Ex.AV.tup [Go.Proofs.Ytcmmchpofkoddaa.Ex.AV.int Go.IntKind.i64 0, Go.Proofs.Ytcmmchpofkoddaa.Ex.AV.int Go.IntKind.i64 7], { blks := [], c := 0 })
                    else Option.some (Go.Proofs.Ytcmmchpofkoddaa.Ex.AV.tup [Go.Proofs.Ytcmmchpofkoddaa.Ex.AV.int Go.IntKind.i64 (Go.IntKind.i64.wrap (a * b)), Go.Proofs.Ytcmmchpofkoddaa.Ex.AV.int Go.IntKind.i64 0], { blks := [], c := 0 })
                  else
                    bif op == 4 then
                      bif Decidable.decide (b = 0) then Option.none
                      else
                        bif !Go.Proofs.Ytcmmchpofkoddaa.Ex.fitB (Go.IntKind.i64.wrap (a.tdiv b)) then Option.some (Go.Proofs.Ytcmmchpofkoddaa.Ex.AV.tup [Go.Proofs.Ytcmmchpofkoddaa.Ex.AV.int Go.IntKind.i64 0, Go.Proofs.Ytcmmchpofkoddaa.Ex.AV.int Go.IntKind.i64 7], { blks := [], c := 0 })
                        else Option.some (Go.Proofs.Ytcmmchpofkoddaa.Ex.AV.tup [Go.Proofs.Ytcmmchpofkoddaa.Ex.AV.int Go.IntKind.i64 (Go.IntKind.i64.wrap (a.tdiv b)), Go.Proofs.Ytcmmchpofkoddaa.Ex.AV.int Go.IntKind.i64 0], { blks := [], c := 0 })
                    else
                      bif Decidable.decide (b = 0) then Option.none
                      else
                        bif !Go.Proofs.Ytcmmchpofkoddaa.Ex.fitB (a.tmod b) then Option.some (Go.Proofs.Ytcmmchpofkoddaa.Ex.AV.tup [Go.Proofs.Ytcmmchpofkoddaa.Ex.AV.int Go.IntKind.i64 0, Go.Proofs.Ytcmmchpofkoddaa.Ex.AV.int Go.IntKind.i64 7], { blks := [], c := 0 })
                        else Option.some (Go.Proofs.Ytcmmchpofkoddaa.Ex.AV.tup [Go.Proofs.Ytcmmchpofkoddaa.Ex.AV.int Go.IntKind.i64 (a.tmod b), Go.Proofs.Ytcmmchpofkoddaa.Ex.AV.int Go.IntKind.i64 0], { blks := [], c := 0 })
          else
            bif op == 1 then
              bif !Go.Proofs.Ytcmmchpofkoddaa.Ex.fitB (Go.IntKind.i64.wrap (a + b)) then Option.some (Go.Proofs.Ytcmmchpofkoddaa.Ex.AV.tup [Go.Proofs.Ytcmmchpofkoddaa.Ex.AV.int Go.IntKind.i64 0, Go.Proofs.Ytcmmchpofkoddaa.Ex.AV.int Go.IntKind.i64 7], { blks := [], c := 0 })
              else Option.some (Go.Proofs.Ytcmmchpofkoddaa.Ex.AV.tup [Go.Proofs.Ytcmmchpofkoddaa.Ex.AV.int Go.IntKind.i64 (Go.IntKind.i64.wrap (a + b)), Go.Proofs.Ytcmmchpofkoddaa.Ex.AV.int Go.IntKind.i64 0], { blks := [], c := 0 })
            else
              bif op == 2 then
                bif !Go.Proofs.Ytcmmchpofkoddaa.Ex.fitB (Go.IntKind.i64.wrap (a - b)) then Option.some (Go.Proofs.Ytcmmchpofkoddaa.Ex.AV.tup [Go.Proofs.Ytcmmchpofkoddaa.Ex.AV.int Go.IntKind.i64 0, Go.Proofs.Ytcmmchpofkoddaa.Ex.AV.int Go.IntKind.i64 7], { blks := [], c := 0 })
                else Option.some (Go.Proofs.Ytcmmchpofkoddaa.Ex.AV.tup [Go.Proofs.Ytcmmchpofkoddaa.Ex.AV.int Go.IntKind.i64 (Go.IntKind.i64.wrap (a - b)), Go.Proofs.Ytcmmchpofkoddaa.Ex.AV.int Go.IntKind.i64 0], { blks := [], c := 0 })
              else
                bif op == 3 then
                  bif !Go.Proofs.Ytcmmchpofkoddaa.Ex.fitB (Go.IntKind.i64.wrap (a * b)) then Option.some (Go.Proofs.Ytcmmchpofkoddaa.Ex.AV.tup [Go.Proofs.Ytcmmchpofkoddaa.Ex.AV.int Go.IntKind.i64 0, Go.Proofs.Ytcmmchpofkoddaa.Ex.AV.int Go.IntKind.i64 7], { blks := [], c := 0 })
                  else Option.some (Go.Proofs.Ytcmmchpofkoddaa.Ex.AV.tup [Go.Proofs.Ytcmmchpofkoddaa.Ex.AV.int Go.IntKind.i64 (Go.IntKind.i64.wrap (a * b)), Go.Proofs.Ytcmmchpofkoddaa.Ex.AV.int Go.IntKind.i64 0], { blks := [], c := 0 })
                else
                  bif op == 4 then
                    bif Decidable.decide (b = 0) then Option.none
                    else
                      bif !Go.Proofs.Ytcmmchpofkoddaa.Ex.fitB (Go.IntKind.i64.wrap (a.tdiv b)) then Option.some (Go.Proofs.Ytcmmchpofkoddaa.Ex.AV.tup [Go.Proofs.Ytcmmchpofkoddaa.Ex.AV.int Go.IntKind.i64 0, Go.Proofs.Ytcmmchpofkoddaa.Ex.AV.int Go.IntKind.i64 7], { blks := [], c := 0 })
                      else Option.some (Go.Proofs.Ytcmmchpofkoddaa.Ex.AV.tup [Go.Proofs.Ytcmmchpofkoddaa.Ex.AV.int Go.IntKind.i64 (Go.IntKind.i64.wrap (a.tdiv b)), Go.Proofs.Ytcmmchpofkoddaa.Ex.AV.int Go.IntKind.i64 0], { blks := [], c := 0 })
                  else
                    bif Decidable.decide (b = 0) then Option.none
                    else
                      bif !Go.Proofs.Ytcmmchpofkoddaa.Ex.fitB (a.tmod b) then Option.some (Go.Proofs.Ytcmmchpofkoddaa.Ex.AV.tup [Go.Proofs.Ytcmmchpofkoddaa.Ex.AV.int Go.IntKind.i64 0, Go.Proofs.Ytcmmchpofkoddaa.Ex.AV.int Go.IntKind.i64 7], { blks := [], c := 0 })
                      else Option.some (Go.Proofs.Ytcmmchpofkoddaa.Ex.AV.tup [Go.Proofs.Ytcmmchpofkoddaa.Ex.AV.int Go.IntKind.i64 (a.tmod b), Go.Proofs.Ytcmmchpofkoddaa.Ex.AV.int Go.IntKind.i64 0], { blks := [], c := 0 }) := by kernel_rfl
theorem raw41 (r : Int) (a : Int) (b : Int) : ev cx1 41 [aN r, aN a, aN b] =
  bif r == 1 then Option.some (Go.Proofs.Ytcmmchpofkoddaa.Ex.AV.bool (Decidable.decide (a < b)), { blks := [], c := 0 })
  else
    bif r == 2 then Option.some (Go.Proofs.Ytcmmchpofkoddaa.Ex.AV.bool (Decidable.decide (a ≤ b)), { blks := [], c := 0 })
    else
      bif r == 3 then Option.some (Go.Proofs.Ytcmmchpofkoddaa.Ex.AV.bool (a == b), { blks := [], c := 0 })
      else
        bif r == 4 then Option.some (Go.Proofs.Ytcmmchpofkoddaa.Ex.AV.bool (a != b), { blks := [], c := 0 })
        else
          bif r == 5 then Option.some (Go.Proofs.Ytcmmchpofkoddaa.Ex.AV.bool (Decidable.decide (a ≥ b)), { blks := [], c := 0 })
          else bif r == 6 then Option.some (Go.Proofs.Ytcmmchpofkoddaa.Ex.AV.bool (Decidable.decide (a > b)), { blks := [], c := 0 }) else Option.some (Go.Proofs.Ytcmmchpofkoddaa.Ex.AV.bool Bool.false, { blks := [], c := 0 }) := by kernel_rfl
theorem raw59 (x : I) (y : I) : ev cx1 59 [aI x, aI y] =
  bif y.fst != y.snd then Option.some (Go.Proofs.Ytcmmchpofkoddaa.Ex.AV.agg [Go.Proofs.Ytcmmchpofkoddaa.Ex.AV.int Go.IntKind.i64 x.fst, Go.Proofs.Ytcmmchpofkoddaa.Ex.AV.int Go.IntKind.i64 x.snd], { blks := [], c := 0 })
  else
    bif x.fst == y.fst then Option.some (Go.Proofs.Ytcmmchpofkoddaa.Ex.AV.agg [Go.Proofs.Ytcmmchpofkoddaa.Ex.AV.int Go.IntKind.i64 (Go.IntKind.i64.wrap (x.fst + 1)), Go.Proofs.Ytcmmchpofkoddaa.Ex.AV.int Go.IntKind.i64 x.snd], { blks := [], c := 0 })
    else
      bif x.snd == y.fst then Option.some (Go.Proofs.Ytcmmchpofkoddaa.Ex.AV.agg [Go.Proofs.Ytcmmchpofkoddaa.Ex.AV.int Go.IntKind.i64 x.fst, Go.Proofs.Ytcmmchpofkoddaa.Ex.AV.int Go.IntKind.i64 (Go.IntKind.i64.wrap (x.snd - 1))], { blks := [], c := 0 })
      else Option.some (Go.Proofs.Ytcmmchpofkoddaa.Ex.AV.agg [Go.Proofs.Ytcmmchpofkoddaa.Ex.AV.int Go.IntKind.i64 x.fst, Go.Proofs.Ytcmmchpofkoddaa.Ex.AV.int Go.IntKind.i64 x.snd], { blks := [], c := 0 }) := by kernel_rfl
theorem raw50 (x : I) (y : I) : ev cx1 50 [aI x, aI y] =
  bif y.fst == 0 && y.snd == 0 then Option.some (Go.Proofs.Ytcmmchpofkoddaa.Ex.AV.agg [Go.Proofs.Ytcmmchpofkoddaa.Ex.AV.int Go.IntKind.i64 Go.Proofs.Ytcmmchpofkoddaa.Ex.nn.fst, Go.Proofs.Ytcmmchpofkoddaa.Ex.AV.int Go.IntKind.i64 Go.Proofs.Ytcmmchpofkoddaa.Ex.nn.snd], { blks := [], c := 0 })
  else
    bif Decidable.decide (x.fst < 0) then
      bif Decidable.decide (x.snd > 0) then
        Option.some
          (Go.Proofs.Ytcmmchpofkoddaa.Ex.AV.agg
              [Go.Proofs.Ytcmmchpofkoddaa.Ex.AV.int Go.IntKind.i64
                  (if
                      Go.IntKind.i64.wrap
                          (0 -
                            Go.IntKind.i64.wrap
                              ((if
                                    Go.IntKind.i64.wrap (0 - y.fst) >
                                      if y.fst > if Go.IntKind.i64.wrap (0 - y.snd) > y.snd then Go.IntKind.i64.wrap (0 - y.snd) else y.snd then y.fst
                                      else if Go.IntKind.i64.wrap (0 - y.snd) > y.snd then Go.IntKind.i64.wrap (0 - y.snd) else y.snd then
                                  Go.IntKind.i64.wrap (0 - y.fst)
                                else
                                  if y.fst > if Go.IntKind.i64.wrap (0 - y.snd) > y.snd then Go.IntKind.i64.wrap (0 - y.snd) else y.snd then y.fst
                                  else if Go.IntKind.i64.wrap (0 - y.snd) > y.snd then Go.IntKind.i64.wrap (0 - y.snd) else y.snd) -
                                1)) >
                        x.fst then
                    Go.IntKind.i64.wrap
                      (0 -
                        Go.IntKind.i64.wrap
                          ((if
                                Go.IntKind.i64.wrap (0 - y.fst) >
                                  if y.fst > if Go.IntKind.i64.wrap (0 - y.snd) > y.snd then Go.IntKind.i64.wrap (0 - y.snd) else y.snd then y.fst
                                  else if Go.IntKind.i64.wrap (0 - y.snd) > y.snd then Go.IntKind.i64.wrap (0 - y.snd) else y.snd then
                              Go.IntKind.i64.wrap (0 - y.fst)
                            else
                              if y.fst > if Go.IntKind.i64.wrap (0 - y.snd) > y.snd then Go.IntKind.i64.wrap (0 - y.snd) else y.snd then y.fst
                              else if Go.IntKind.i64.wrap (0 - y.snd) > y.snd then Go.IntKind.i64.wrap (0 - y.snd) else y.snd) -
                            1))
                  else x.fst),
                Go.Proofs.Ytcmmchpofkoddaa.Ex.AV.int Go.IntKind.i64
                  (if
                      Go.IntKind.i64.wrap
                          ((if
                                Go.IntKind.i64.wrap (0 - y.fst) >
                                  if y.fst > if Go.IntKind.i64.wrap (0 - y.snd) > y.snd then Go.IntKind.i64.wrap (0 - y.snd) else y.snd then y.fst
                                  else if Go.IntKind.i64.wrap (0 - y.snd) > y.snd then Go.IntKind.i64.wrap (0 - y.snd) else y.snd then
                              Go.IntKind.i64.wrap (0 - y.fst)
                            else
                              if y.fst > if Go.IntKind.i64.wrap (0 - y.snd) > y.snd then Go.IntKind.i64.wrap (0 - y.snd) else y.snd then y.fst
                              else if Go.IntKind.i64.wrap (0 - y.snd) > y.snd then Go.IntKind.i64.wrap (0 - y.snd) else y.snd) -
                            1) <
                        x.snd then
                    Go.IntKind.i64.wrap
                      ((if
                            Go.IntKind.i64.wrap (0 - y.fst) >
                              if y.fst > if Go.IntKind.i64.wrap (0 - y.snd) > y.snd then Go.IntKind.i64.wrap (0 - y.snd) else y.snd then y.fst
                              else if Go.IntKind.i64.wrap (0 - y.snd) > y.snd then Go.IntKind.i64.wrap (0 - y.snd) else y.snd then
                          Go.IntKind.i64.wrap (0 - y.fst)
                        else
                          if y.fst > if Go.IntKind.i64.wrap (0 - y.snd) > y.snd then Go.IntKind.i64.wrap (0 - y.snd) else y.snd then y.fst
                          else if Go.IntKind.i64.wrap (0 - y.snd) > y.snd then Go.IntKind.i64.wrap (0 - y.snd) else y.snd) -
                        1)
                  else x.snd)],
            { blks := [], c := 0 })
      else
        Option.some
          (Go.Proofs.Ytcmmchpofkoddaa.Ex.AV.agg
              [Go.Proofs.Ytcmmchpofkoddaa.Ex.AV.int Go.IntKind.i64
                  (if
                      Go.IntKind.i64.wrap
                          (0 -
                            Go.IntKind.i64.wrap
                              ((if
                                    Go.IntKind.i64.wrap (0 - y.fst) >
                                      if y.fst > if Go.IntKind.i64.wrap (0 - y.snd) > y.snd then Go.IntKind.i64.wrap (0 - y.snd) else y.snd then y.fst
                                      else if Go.IntKind.i64.wrap (0 - y.snd) > y.snd then Go.IntKind.i64.wrap (0 - y.snd) else y.snd then
                                  Go.IntKind.i64.wrap (0 - y.fst)
                                else
                                  if y.fst > if Go.IntKind.i64.wrap (0 - y.snd) > y.snd then Go.IntKind.i64.wrap (0 - y.snd) else y.snd then y.fst
                                  else if Go.IntKind.i64.wrap (0 - y.snd) > y.snd then Go.IntKind.i64.wrap (0 - y.snd) else y.snd) -
                                1)) >
                        x.fst then
                    Go.IntKind.i64.wrap
                      (0 -
                        Go.IntKind.i64.wrap
                          ((if
                                Go.IntKind.i64.wrap (0 - y.fst) >
                                  if y.fst > if Go.IntKind.i64.wrap (0 - y.snd) > y.snd then Go.IntKind.i64.wrap (0 - y.snd) else y.snd then y.fst
                                  else if Go.IntKind.i64.wrap (0 - y.snd) > y.snd then Go.IntKind.i64.wrap (0 - y.snd) else y.snd then
                              Go.IntKind.i64.wrap (0 - y.fst)
                            else
                              if y.fst > if Go.IntKind.i64.wrap (0 - y.snd) > y.snd then Go.IntKind.i64.wrap (0 - y.snd) else y.snd then y.fst
                              else if Go.IntKind.i64.wrap (0 - y.snd) > y.snd then Go.IntKind.i64.wrap (0 - y.snd) else y.snd) -
                            1))
                  else x.fst),
                Go.Proofs.Ytcmmchpofkoddaa.Ex.AV.int Go.IntKind.i64 0],
            { blks := [], c := 0 })
    else
      bif Decidable.decide (x.snd > 0) then
        Option.some
          (Go.Proofs.Ytcmmchpofkoddaa.Ex.AV.agg
              [Go.Proofs.Ytcmmchpofkoddaa.Ex.AV.int Go.IntKind.i64 0,
                Go.Proofs.Ytcmmchpofkoddaa.Ex.AV.int Go.IntKind.i64
                  (if
                      Go.IntKind.i64.wrap
                          ((if
                                Go.IntKind.i64.wrap (0 - y.fst) >
                                  if y.fst > if Go.IntKind.i64.wrap (0 - y.snd) > y.snd then Go.IntKind.i64.wrap (0 - y.snd) else y.snd then y.fst
                                  else if Go.IntKind.i64.wrap (0 - y.snd) > y.snd then Go.IntKind.i64.wrap (0 - y.snd) else y.snd then
                              Go.IntKind.i64.wrap (0 - y.fst)
                            else
                              if y.fst > if Go.IntKind.i64.wrap (0 - y.snd) > y.snd then Go.IntKind.i64.wrap (0 - y.snd) else y.snd then y.fst
                              else if Go.IntKind.i64.wrap (0 - y.snd) > y.snd then Go.IntKind.i64.wrap (0 - y.snd) else y.snd) -
                            1) <
                        x.snd then
                    Go.IntKind.i64.wrap
                      ((if
                            Go.IntKind.i64.wrap (0 - y.fst) >
                              if y.fst > if Go.IntKind.i64.wrap (0 - y.snd) > y.snd then Go.IntKind.i64.wrap (0 - y.snd) else y.snd then y.fst
                              else if Go.IntKind.i64.wrap (0 - y.snd) > y.snd then Go.IntKind.i64.wrap (0 - y.snd) else y.snd then
                          Go.IntKind.i64.wrap (0 - y.fst)
                        else
                          if y.fst > if Go.IntKind.i64.wrap (0 - y.snd) > y.snd then Go.IntKind.i64.wrap (0 - y.snd) else y.snd then y.fst
                          else if Go.IntKind.i64.wrap (0 - y.snd) > y.snd then Go.IntKind.i64.wrap (0 - y.snd) else y.snd) -
                        1)
                  else x.snd)],
            { blks := [], c := 0 })
      else Option.some (Go.Proofs.Ytcmmchpofkoddaa.Ex.AV.agg [Go.Proofs.Ytcmmchpofkoddaa.Ex.AV.int Go.IntKind.i64 0, Go.Proofs.Ytcmmchpofkoddaa.Ex.AV.int Go.IntKind.i64 0], { blks := [], c := 0 }) := by kernel_rfl
end Go.Proofs.Ytcmmchpofkoddaa.Ex

/- Contracts, level 1. -/
namespace Go.Proofs.Ytcmmchpofkoddaa.Ex
open Go.Proofs Go.Proofs.Ytcmmchpofkoddaa
set_option maxRecDepth 100000
set_option linter.unusedSimpArgs false
set_option linter.unusedVariables false
theorem ok26 (x : I) (y : I) : ev cx1 26 [aI x, aI y] = outV (aI (iMeet x y)) := by
  rw [raw26]
  simp [outV, aI, aN, nn, iMeet, empB, mx, mn, cond_eq_ite] <;> ((repeat' split) <;> simp_all <;> omega)
theorem ok27 (x : I) (y : I) : ev cx1 27 [aI x, aI y] = outV (.bool (leqB x y)) := by
  rw [raw27]
  simp [outV, aI, aN, nn, leqB, empB, mx, mn, cond_eq_ite] <;> ((repeat' split) <;> simp_all <;> omega)
theorem ok34 (x : I) (y : I) : ev cx1 34 [aI x, aI y] = outV (.bool (leqB x y)) := by
  rw [raw34]
  simp [outV, aI, aN, nn, leqB, empB, mx, mn, cond_eq_ite] <;> ((repeat' split) <;> simp_all <;> omega)
theorem ok24 (x : I) : ev cx1 24 [aI x] = outV (.bool (isB x)) := by
  rw [raw24]
  simp [outV, aI, aN, nn, isB, fitB, empB, mx, mn, cond_eq_ite] <;> ((repeat' split) <;> simp_all <;> omega)
theorem ok28 (x : I) (y : I) : ev cx1 28 [aI x, aI y] = outV (aI (rJoin x y)) := by
  rw [raw28]
  simp [outV, aI, aN, nn, rJoin, empB, mx, mn, cond_eq_ite] <;> ((repeat' split) <;> simp_all <;> omega)
theorem ok57 (a : Int) (b : Int) : ev cx1 57 [aN a, aN b] = outV (aI (iSpan a b)) := by
  rw [raw57]
  simp [outV, aI, aN, nn, iSpan, empB, mx, mn, cond_eq_ite] <;> ((repeat' split) <;> simp_all <;> omega)
theorem ok25 (z : I × I) : ev cx1 25 [aL2 z] = outV (aI (iJoin z.1 z.2)) := by
  rw [raw25]
  simp [outV, aI, aN, nn, iJoin, empB, mx, mn, cond_eq_ite] <;> ((repeat' split) <;> simp_all <;> omega)
theorem ok21 (x : I) (n : Int) (hp : (isB x && !empB x) = true) : ev cx1 21 [aI x, aN n] = outV (aN (pickV x n)) := by
  rw [raw21]
  simp only [Bool.and_eq_true, Bool.not_eq_true', empB, decide_eq_false_iff_not] at hp
  have h1 := isB_abs hp.1
  have h2 := hp.2
  have hs : IntKind.i64.wrap (IntKind.i64.wrap (x.2 - x.1) + 1) = x.2 - x.1 + 1 := by rw [wr (n := x.2 - x.1) (by omega), wr (by omega)]
  have hpos : x.2 - x.1 + 1 ≠ 0 := by omega
  have m1 := mod_lt (a := n) hpos
  have hs2 : IntKind.i64.wrap (n.tmod (x.2 - x.1 + 1) + (x.2 - x.1 + 1)) = n.tmod (x.2 - x.1 + 1) + (x.2 - x.1 + 1) := wr (by omega)
  have m2 := mod_lt (a := n.tmod (x.2 - x.1 + 1) + (x.2 - x.1 + 1)) hpos
  have hs3 : IntKind.i64.wrap (x.1 + (n.tmod (x.2 - x.1 + 1) + (x.2 - x.1 + 1)).tmod (x.2 - x.1 + 1)) = x.1 + (n.tmod (x.2 - x.1 + 1) + (x.2 - x.1 + 1)).tmod (x.2 - x.1 + 1) := wr (by omega)
  simp only [hs, hs2, hs3, hpos, decide_false, cond_false]
  rfl
theorem ok22 (op : Int) (a : Int) (b : Int) : ev cx1 22 [aN op, aN a, aN b] = outV (.tup [aN (doR op a b).1, aN (doR op a b).2]) := by
  rw [raw22]
  unfold doR outV aN
  by_cases ha : fitB a = true
  · by_cases hb : fitB b = true
    · have h1 := fit_abs ha
      have h2 := fit_abs hb
      have w1 : IntKind.i64.wrap (a + b) = a + b := wr (by omega)
      have w2 : IntKind.i64.wrap (a - b) = a - b := wr (by omega)
      have w3 : IntKind.i64.wrap (a * b) = a * b := wr (mul_abs h1 h2)
      have w4 : IntKind.i64.wrap (a.tdiv b) = a.tdiv b := wr (div_abs (Nat.le_trans h1 (by omega)))
      have w5 : IntKind.i64.wrap (a.tmod b) = a.tmod b := wr (mod_abs (Nat.le_trans h1 (by omega)))
      simp only [w1, w2, w3, w4, w5, ha, hb]
      clear w1 w2 w3 w4 w5 h1 h2 ha hb
      by_cases o1 : op = 1
      · subst o1; cases h : fitB (a + b) <;> simp [h]
      by_cases o2 : op = 2
      · subst o2; cases h : fitB (a - b) <;> simp [h]
      by_cases o3 : op = 3
      · subst o3; cases h : fitB (a * b) <;> simp [h]
      by_cases o4 : op = 4
      · subst o4; by_cases hz : b = 0
        · simp [hz]
        · have hz' : (b == 0) = false := by simp [hz]
          cases h : fitB (a.tdiv b) <;> simp [h, hz, hz']
      by_cases o5 : op = 5
      · subst o5; by_cases hz : b = 0
        · simp [hz]
        · have hz' : (b == 0) = false := by simp [hz]
          cases h : fitB (a.tmod b) <;> simp [h, hz, hz']
      by_cases o6 : op < 1
      · simp [o6]
      · have o7 : op > 5 := by omega
        simp [o6, o7]
    · simp_all
  · simp_all
theorem ok41 (r : Int) (a : Int) (b : Int) : ev cx1 41 [aN r, aN a, aN b] = outV (.bool (relR r a b)) := by
  rw [raw41]
  simp [outV, aI, aN, nn, relR, empB, mx, mn, cond_eq_ite] <;> ((repeat' split) <;> simp_all <;> omega)
theorem ok59 (x : I) (y : I) (hp : (isB x) = true) : ev cx1 59 [aI x, aI y] = outV (aI (wout x y)) := by
  rw [raw59]
  have h1 := isB_abs hp
  simp only [wr (n := x.1 + 1) (by omega), wr (n := x.2 - 1) (by omega)]
  simp [outV, aI, wout, cond_eq_ite]
  (repeat' split) <;> simp_all
theorem ok50 (x : I) (y : I) (hp : (isB x && isB y) = true) : ev cx1 50 [aI x, aI y] = outV (aI (remI x y)) := by
  rw [raw50]
  simp only [Bool.and_eq_true] at hp
  have h1 := isB_abs hp.1
  have h2 := isB_abs hp.2
  have w1 : IntKind.i64.wrap (0 - y.1) = -y.1 := by rw [wr (by omega)]; omega
  have w2 : IntKind.i64.wrap (0 - y.2) = -y.2 := by rw [wr (by omega)]; omega
  simp only [w1, w2, mn_def, mx_def]
  have hm : (mx (mx (mx y.2 (-y.2)) y.1) (-y.1) - 1).natAbs ≤ 2147483649 := by unfold mx; omega
  have w3 : IntKind.i64.wrap (mx (mx (mx y.2 (-y.2)) y.1) (-y.1) - 1) = mx (mx (mx y.2 (-y.2)) y.1) (-y.1) - 1 := wr (by omega)
  simp only [w3]
  unfold remI
  generalize mx (mx (mx y.2 (-y.2)) y.1) (-y.1) - 1 = m at *
  have w4 : IntKind.i64.wrap (0 - m) = -m := by rw [wr (by omega)]; omega
  simp only [w4]
  simp [outV, aI, nn, cond_eq_ite]
  (repeat' split) <;> simp_all
def M26 : List AV → Option (Bool × AV × List Blk)
  | [v_x, v_y] => (gI v_x).bind fun x => (gI v_y).bind fun y => some (true, aI (iMeet x y), [])
  | _ => none
theorem hM26 (args : List AV) (v : AV) (bs : List Blk) (h : M26 args = some (true, v, bs)) : AV.idsL args = [] ∧ (true = true ∨ (plainV v = true ∧ bs.all plainB = true)) ∧ ∃ fb, ex ((evF cx1 keeps 3 26 args).bind (finP true)) false ⟨[], 0⟩ ⟨[], []⟩ = some (v, ⟨enumB 0 bs, bs.length⟩, fb) := by
  unfold M26 at h
  split at h
  · obtain ⟨x, h_x, h0⟩ := Option.bind_eq_some_iff.1 h
    obtain ⟨y, h_y, h1⟩ := Option.bind_eq_some_iff.1 h0
    simp only [Option.some.injEq, Prod.mk.injEq] at h1
    obtain ⟨_, rfl, rfl⟩ := h1
    have e_x := gI_some h_x
    have e_y := gI_some h_y
    subst e_x e_y
    exact ⟨rfl, .inl rfl, ev_ex (ok26 x y)⟩
  · cases h
theorem snd26 : SoundA Try.prog 26 (specP true M26) := soundA_spec (fz := true) (cal1 26) hM26
def M27 : List AV → Option (Bool × AV × List Blk)
  | [v_x, v_y] => (gI v_x).bind fun x => (gI v_y).bind fun y => some (true, .bool (leqB x y), [])
  | _ => none
theorem hM27 (args : List AV) (v : AV) (bs : List Blk) (h : M27 args = some (true, v, bs)) : AV.idsL args = [] ∧ (true = true ∨ (plainV v = true ∧ bs.all plainB = true)) ∧ ∃ fb, ex ((evF cx1 keeps 3 27 args).bind (finP true)) false ⟨[], 0⟩ ⟨[], []⟩ = some (v, ⟨enumB 0 bs, bs.length⟩, fb) := by
  unfold M27 at h
  split at h
  · obtain ⟨x, h_x, h0⟩ := Option.bind_eq_some_iff.1 h
    obtain ⟨y, h_y, h1⟩ := Option.bind_eq_some_iff.1 h0
    simp only [Option.some.injEq, Prod.mk.injEq] at h1
    obtain ⟨_, rfl, rfl⟩ := h1
    have e_x := gI_some h_x
    have e_y := gI_some h_y
    subst e_x e_y
    exact ⟨rfl, .inl rfl, ev_ex (ok27 x y)⟩
  · cases h
theorem snd27 : SoundA Try.prog 27 (specP true M27) := soundA_spec (fz := true) (cal1 27) hM27
def M34 : List AV → Option (Bool × AV × List Blk)
  | [v_x, v_y] => (gI v_x).bind fun x => (gI v_y).bind fun y => some (true, .bool (leqB x y), [])
  | _ => none
theorem hM34 (args : List AV) (v : AV) (bs : List Blk) (h : M34 args = some (true, v, bs)) : AV.idsL args = [] ∧ (true = true ∨ (plainV v = true ∧ bs.all plainB = true)) ∧ ∃ fb, ex ((evF cx1 keeps 3 34 args).bind (finP true)) false ⟨[], 0⟩ ⟨[], []⟩ = some (v, ⟨enumB 0 bs, bs.length⟩, fb) := by
  unfold M34 at h
  split at h
  · obtain ⟨x, h_x, h0⟩ := Option.bind_eq_some_iff.1 h
    obtain ⟨y, h_y, h1⟩ := Option.bind_eq_some_iff.1 h0
    simp only [Option.some.injEq, Prod.mk.injEq] at h1
    obtain ⟨_, rfl, rfl⟩ := h1
    have e_x := gI_some h_x
    have e_y := gI_some h_y
    subst e_x e_y
    exact ⟨rfl, .inl rfl, ev_ex (ok34 x y)⟩
  · cases h
theorem snd34 : SoundA Try.prog 34 (specP true M34) := soundA_spec (fz := true) (cal1 34) hM34
def M24 : List AV → Option (Bool × AV × List Blk)
  | [v_x] => (gI v_x).bind fun x => some (true, .bool (isB x), [])
  | _ => none
theorem hM24 (args : List AV) (v : AV) (bs : List Blk) (h : M24 args = some (true, v, bs)) : AV.idsL args = [] ∧ (true = true ∨ (plainV v = true ∧ bs.all plainB = true)) ∧ ∃ fb, ex ((evF cx1 keeps 3 24 args).bind (finP true)) false ⟨[], 0⟩ ⟨[], []⟩ = some (v, ⟨enumB 0 bs, bs.length⟩, fb) := by
  unfold M24 at h
  split at h
  · obtain ⟨x, h_x, h0⟩ := Option.bind_eq_some_iff.1 h
    simp only [Option.some.injEq, Prod.mk.injEq] at h0
    obtain ⟨_, rfl, rfl⟩ := h0
    have e_x := gI_some h_x
    subst e_x
    exact ⟨rfl, .inl rfl, ev_ex (ok24 x)⟩
  · cases h
theorem snd24 : SoundA Try.prog 24 (specP true M24) := soundA_spec (fz := true) (cal1 24) hM24
def M28 : List AV → Option (Bool × AV × List Blk)
  | [v_x, v_y] => (gI v_x).bind fun x => (gI v_y).bind fun y => some (true, aI (rJoin x y), [])
  | _ => none
theorem hM28 (args : List AV) (v : AV) (bs : List Blk) (h : M28 args = some (true, v, bs)) : AV.idsL args = [] ∧ (true = true ∨ (plainV v = true ∧ bs.all plainB = true)) ∧ ∃ fb, ex ((evF cx1 keeps 3 28 args).bind (finP true)) false ⟨[], 0⟩ ⟨[], []⟩ = some (v, ⟨enumB 0 bs, bs.length⟩, fb) := by
  unfold M28 at h
  split at h
  · obtain ⟨x, h_x, h0⟩ := Option.bind_eq_some_iff.1 h
    obtain ⟨y, h_y, h1⟩ := Option.bind_eq_some_iff.1 h0
    simp only [Option.some.injEq, Prod.mk.injEq] at h1
    obtain ⟨_, rfl, rfl⟩ := h1
    have e_x := gI_some h_x
    have e_y := gI_some h_y
    subst e_x e_y
    exact ⟨rfl, .inl rfl, ev_ex (ok28 x y)⟩
  · cases h
theorem snd28 : SoundA Try.prog 28 (specP true M28) := soundA_spec (fz := true) (cal1 28) hM28
def M57 : List AV → Option (Bool × AV × List Blk)
  | [v_a, v_b] => (gN v_a).bind fun a => (gN v_b).bind fun b => some (true, aI (iSpan a b), [])
  | _ => none
theorem hM57 (args : List AV) (v : AV) (bs : List Blk) (h : M57 args = some (true, v, bs)) : AV.idsL args = [] ∧ (true = true ∨ (plainV v = true ∧ bs.all plainB = true)) ∧ ∃ fb, ex ((evF cx1 keeps 3 57 args).bind (finP true)) false ⟨[], 0⟩ ⟨[], []⟩ = some (v, ⟨enumB 0 bs, bs.length⟩, fb) := by
  unfold M57 at h
  split at h
  · obtain ⟨a, h_a, h0⟩ := Option.bind_eq_some_iff.1 h
    obtain ⟨b, h_b, h1⟩ := Option.bind_eq_some_iff.1 h0
    simp only [Option.some.injEq, Prod.mk.injEq] at h1
    obtain ⟨_, rfl, rfl⟩ := h1
    have e_a := gN_some h_a
    have e_b := gN_some h_b
    subst e_a e_b
    exact ⟨rfl, .inl rfl, ev_ex (ok57 a b)⟩
  · cases h
theorem snd57 : SoundA Try.prog 57 (specP true M57) := soundA_spec (fz := true) (cal1 57) hM57
def M25 : List AV → Option (Bool × AV × List Blk)
  | [v_z] => (gL2 v_z).bind fun z => some (true, aI (iJoin z.1 z.2), [])
  | _ => none
theorem hM25 (args : List AV) (v : AV) (bs : List Blk) (h : M25 args = some (true, v, bs)) : AV.idsL args = [] ∧ (true = true ∨ (plainV v = true ∧ bs.all plainB = true)) ∧ ∃ fb, ex ((evF cx1 keeps 3 25 args).bind (finP true)) false ⟨[], 0⟩ ⟨[], []⟩ = some (v, ⟨enumB 0 bs, bs.length⟩, fb) := by
  unfold M25 at h
  split at h
  · obtain ⟨z, h_z, h0⟩ := Option.bind_eq_some_iff.1 h
    simp only [Option.some.injEq, Prod.mk.injEq] at h0
    obtain ⟨_, rfl, rfl⟩ := h0
    have e_z := gL2_some h_z
    subst e_z
    exact ⟨rfl, .inl rfl, ev_ex (ok25 z)⟩
  · cases h
theorem snd25 : SoundA Try.prog 25 (specP true M25) := soundA_spec (fz := true) (cal1 25) hM25
def M21 : List AV → Option (Bool × AV × List Blk)
  | [v_x, v_n] => (gI v_x).bind fun x => (gN v_n).bind fun n => some ((isB x && !empB x), aN (pickV x n), [])
  | _ => none
theorem hM21 (args : List AV) (v : AV) (bs : List Blk) (h : M21 args = some (true, v, bs)) : AV.idsL args = [] ∧ (true = true ∨ (plainV v = true ∧ bs.all plainB = true)) ∧ ∃ fb, ex ((evF cx1 keeps 3 21 args).bind (finP true)) false ⟨[], 0⟩ ⟨[], []⟩ = some (v, ⟨enumB 0 bs, bs.length⟩, fb) := by
  unfold M21 at h
  split at h
  · obtain ⟨x, h_x, h0⟩ := Option.bind_eq_some_iff.1 h
    obtain ⟨n, h_n, h1⟩ := Option.bind_eq_some_iff.1 h0
    simp only [Option.some.injEq, Prod.mk.injEq] at h1
    obtain ⟨hp, rfl, rfl⟩ := h1
    have e_x := gI_some h_x
    have e_n := gN_some h_n
    subst e_x e_n
    exact ⟨rfl, .inl rfl, ev_ex (ok21 x n hp)⟩
  · cases h
theorem snd21 : SoundA Try.prog 21 (specP true M21) := soundA_spec (fz := true) (cal1 21) hM21
def M22 : List AV → Option (Bool × AV × List Blk)
  | [v_op, v_a, v_b] => (gN v_op).bind fun op => (gN v_a).bind fun a => (gN v_b).bind fun b => some (true, .tup [aN (doR op a b).1, aN (doR op a b).2], [])
  | _ => none
theorem hM22 (args : List AV) (v : AV) (bs : List Blk) (h : M22 args = some (true, v, bs)) : AV.idsL args = [] ∧ (true = true ∨ (plainV v = true ∧ bs.all plainB = true)) ∧ ∃ fb, ex ((evF cx1 keeps 3 22 args).bind (finP true)) false ⟨[], 0⟩ ⟨[], []⟩ = some (v, ⟨enumB 0 bs, bs.length⟩, fb) := by
  unfold M22 at h
  split at h
  · obtain ⟨op, h_op, h0⟩ := Option.bind_eq_some_iff.1 h
    obtain ⟨a, h_a, h1⟩ := Option.bind_eq_some_iff.1 h0
    obtain ⟨b, h_b, h2⟩ := Option.bind_eq_some_iff.1 h1
    simp only [Option.some.injEq, Prod.mk.injEq] at h2
    obtain ⟨_, rfl, rfl⟩ := h2
    have e_op := gN_some h_op
    have e_a := gN_some h_a
    have e_b := gN_some h_b
    subst e_op e_a e_b
    exact ⟨rfl, .inl rfl, ev_ex (ok22 op a b)⟩
  · cases h
theorem snd22 : SoundA Try.prog 22 (specP true M22) := soundA_spec (fz := true) (cal1 22) hM22
def M41 : List AV → Option (Bool × AV × List Blk)
  | [v_r, v_a, v_b] => (gN v_r).bind fun r => (gN v_a).bind fun a => (gN v_b).bind fun b => some (true, .bool (relR r a b), [])
  | _ => none
theorem hM41 (args : List AV) (v : AV) (bs : List Blk) (h : M41 args = some (true, v, bs)) : AV.idsL args = [] ∧ (true = true ∨ (plainV v = true ∧ bs.all plainB = true)) ∧ ∃ fb, ex ((evF cx1 keeps 3 41 args).bind (finP true)) false ⟨[], 0⟩ ⟨[], []⟩ = some (v, ⟨enumB 0 bs, bs.length⟩, fb) := by
  unfold M41 at h
  split at h
  · obtain ⟨r, h_r, h0⟩ := Option.bind_eq_some_iff.1 h
    obtain ⟨a, h_a, h1⟩ := Option.bind_eq_some_iff.1 h0
    obtain ⟨b, h_b, h2⟩ := Option.bind_eq_some_iff.1 h1
    simp only [Option.some.injEq, Prod.mk.injEq] at h2
    obtain ⟨_, rfl, rfl⟩ := h2
    have e_r := gN_some h_r
    have e_a := gN_some h_a
    have e_b := gN_some h_b
    subst e_r e_a e_b
    exact ⟨rfl, .inl rfl, ev_ex (ok41 r a b)⟩
  · cases h
theorem snd41 : SoundA Try.prog 41 (specP true M41) := soundA_spec (fz := true) (cal1 41) hM41
def M59 : List AV → Option (Bool × AV × List Blk)
  | [v_x, v_y] => (gI v_x).bind fun x => (gI v_y).bind fun y => some ((isB x), aI (wout x y), [])
  | _ => none
theorem hM59 (args : List AV) (v : AV) (bs : List Blk) (h : M59 args = some (true, v, bs)) : AV.idsL args = [] ∧ (true = true ∨ (plainV v = true ∧ bs.all plainB = true)) ∧ ∃ fb, ex ((evF cx1 keeps 3 59 args).bind (finP true)) false ⟨[], 0⟩ ⟨[], []⟩ = some (v, ⟨enumB 0 bs, bs.length⟩, fb) := by
  unfold M59 at h
  split at h
  · obtain ⟨x, h_x, h0⟩ := Option.bind_eq_some_iff.1 h
    obtain ⟨y, h_y, h1⟩ := Option.bind_eq_some_iff.1 h0
    simp only [Option.some.injEq, Prod.mk.injEq] at h1
    obtain ⟨hp, rfl, rfl⟩ := h1
    have e_x := gI_some h_x
    have e_y := gI_some h_y
    subst e_x e_y
    exact ⟨rfl, .inl rfl, ev_ex (ok59 x y hp)⟩
  · cases h
theorem snd59 : SoundA Try.prog 59 (specP true M59) := soundA_spec (fz := true) (cal1 59) hM59
def M50 : List AV → Option (Bool × AV × List Blk)
  | [v_x, v_y] => (gI v_x).bind fun x => (gI v_y).bind fun y => some ((isB x && isB y), aI (remI x y), [])
  | _ => none
theorem hM50 (args : List AV) (v : AV) (bs : List Blk) (h : M50 args = some (true, v, bs)) : AV.idsL args = [] ∧ (true = true ∨ (plainV v = true ∧ bs.all plainB = true)) ∧ ∃ fb, ex ((evF cx1 keeps 3 50 args).bind (finP true)) false ⟨[], 0⟩ ⟨[], []⟩ = some (v, ⟨enumB 0 bs, bs.length⟩, fb) := by
  unfold M50 at h
  split at h
  · obtain ⟨x, h_x, h0⟩ := Option.bind_eq_some_iff.1 h
    obtain ⟨y, h_y, h1⟩ := Option.bind_eq_some_iff.1 h0
    simp only [Option.some.injEq, Prod.mk.injEq] at h1
    obtain ⟨hp, rfl, rfl⟩ := h1
    have e_x := gI_some h_x
    have e_y := gI_some h_y
    subst e_x e_y
    exact ⟨rfl, .inl rfl, ev_ex (ok50 x y hp)⟩
  · cases h
theorem snd50 : SoundA Try.prog 50 (specP true M50) := soundA_spec (fz := true) (cal1 50) hM50
end Go.Proofs.Ytcmmchpofkoddaa.Ex

