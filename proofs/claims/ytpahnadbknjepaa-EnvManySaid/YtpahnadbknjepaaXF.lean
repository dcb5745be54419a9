/- A part of the proofs of the laws of environments: XF. -/
import Derived.Test.YtpahnadbknjepaaXD
import Derived.Test.YtpahnadbknjepaaRows
/- The program of a seat, for the executor. -/
namespace Go.Proofs.Ytpahnadbknjepaa.Ex
open Go.Proofs Go.Proofs.Ytpahnadbknjepaa
instance rt0 : RT where
  C := fun _ => Bool
  body := fun _ => .bool
  unf := fun _ x => x
  fld := fun _ x => x
  uf := fun _ _ => rfl
  fu := fun _ _ => rfl
def tab : List (TypeId × TInfo) := [
  (3, ⟨(.int .i64), 8, 0, [], false⟩),
  (4, ⟨.bool, 1, 0, [], false⟩),
  (22, ⟨(.sl (.st (.pair .bool (.pair (.sl (.st (.pair (.int .i64) (.int .i64)))) (.pair (.sl (.st (.pair (.int .i64) (.int .i64)))) (.pair (.sl (.st (.pair (.int .i64) (.int .i64)))) (.pair (.int .i64) (.int .i64)))))))), 24, 26, [], false⟩),
  (24, ⟨(.sl (.st (.pair (.int .i64) (.int .i64)))), 24, 40, [], false⟩),
  (25, ⟨(.st (.pair .bool (.pair (.sl (.st (.pair (.int .i64) (.int .i64)))) (.pair (.sl (.st (.pair (.int .i64) (.int .i64)))) (.pair (.sl (.st (.pair (.int .i64) (.int .i64)))) (.pair (.int .i64) (.int .i64))))))), 96, 0, [(0, 1), (1, 1), (2, 1), (3, 1), (4, 1), (5, 1)], false⟩),
  (26, ⟨(.st (.pair .bool (.pair (.sl (.st (.pair (.int .i64) (.int .i64)))) (.pair (.sl (.st (.pair (.int .i64) (.int .i64)))) (.pair (.sl (.st (.pair (.int .i64) (.int .i64)))) (.pair (.int .i64) (.int .i64))))))), 96, 0, [(0, 1), (1, 1), (2, 1), (3, 1), (4, 1), (5, 1)], false⟩),
  (32, ⟨(.sl (.int .i64)), 24, 3, [], false⟩),
  (39, ⟨(.st (.pair (.int .i64) (.int .i64))), 16, 0, [(0, 1), (1, 1)], true⟩),
  (40, ⟨(.st (.pair (.int .i64) (.int .i64))), 16, 0, [(0, 1), (1, 1)], true⟩),
  (47, ⟨(.st (.pair (.int .i64) (.pair (.int .i64) (.pair (.int .i64) (.pair (.int .i64) (.pair (.int .i64) (.pair (.int .i64) (.pair (.int .i64) (.pair (.int .i64) (.int .i64)))))))))), 72, 0, [(0, 1), (1, 1), (2, 1), (3, 1), (4, 1), (5, 1), (6, 1), (7, 1), (8, 1)], true⟩),
  (48, ⟨(.st (.pair (.int .i64) (.pair (.int .i64) (.pair (.int .i64) (.pair (.int .i64) (.pair (.int .i64) (.pair (.int .i64) (.pair (.int .i64) (.pair (.int .i64) (.int .i64)))))))))), 72, 0, [(0, 1), (1, 1), (2, 1), (3, 1), (4, 1), (5, 1), (6, 1), (7, 1), (8, 1)], true⟩),
  (49, ⟨(.sl (.st (.pair (.int .i64) (.pair (.int .i64) (.pair (.int .i64) (.pair (.int .i64) (.pair (.int .i64) (.pair (.int .i64) (.pair (.int .i64) (.pair (.int .i64) (.int .i64))))))))))), 24, 48, [], false⟩),
  (50, ⟨(.st (.pair (.int .i64) (.sl (.st (.pair (.int .i64) (.pair (.int .i64) (.pair (.int .i64) (.pair (.int .i64) (.pair (.int .i64) (.pair (.int .i64) (.pair (.int .i64) (.pair (.int .i64) (.int .i64))))))))))))), 32, 0, [(0, 1), (1, 1)], false⟩),
  (51, ⟨(.st (.pair (.int .i64) (.sl (.st (.pair (.int .i64) (.pair (.int .i64) (.pair (.int .i64) (.pair (.int .i64) (.pair (.int .i64) (.pair (.int .i64) (.pair (.int .i64) (.pair (.int .i64) (.int .i64))))))))))))), 32, 0, [(0, 1), (1, 1)], false⟩),
  (52, ⟨(.sl (.st (.pair (.int .i64) (.sl (.st (.pair (.int .i64) (.pair (.int .i64) (.pair (.int .i64) (.pair (.int .i64) (.pair (.int .i64) (.pair (.int .i64) (.pair (.int .i64) (.pair (.int .i64) (.int .i64)))))))))))))), 24, 51, [], false⟩),
  (53, ⟨(.st (.pair (.sl (.int .i64)) (.pair (.sl (.int .i64)) (.pair (.int .i64) (.sl (.st (.pair (.int .i64) (.sl (.st (.pair (.int .i64) (.pair (.int .i64) (.pair (.int .i64) (.pair (.int .i64) (.pair (.int .i64) (.pair (.int .i64) (.pair (.int .i64) (.pair (.int .i64) (.int .i64)))))))))))))))))), 80, 0, [(0, 1), (1, 1), (2, 1), (3, 1)], false⟩),
  (54, ⟨(.st (.pair (.sl (.int .i64)) (.pair (.sl (.int .i64)) (.pair (.int .i64) (.sl (.st (.pair (.int .i64) (.sl (.st (.pair (.int .i64) (.pair (.int .i64) (.pair (.int .i64) (.pair (.int .i64) (.pair (.int .i64) (.pair (.int .i64) (.pair (.int .i64) (.pair (.int .i64) (.int .i64)))))))))))))))))), 80, 0, [(0, 1), (1, 1), (2, 1), (3, 1)], false⟩)]
def keeps : Nat → List Nat
  | 3 => [0, 19, 4, 24, 3, 6, 37, 5, 2]
  | 4 => [0, 1, 2, 5, 6, 7, 3, 4, 31, 11, 12, 47, 59, 10]
  | 5 => [0, 1, 5, 6, 2, 3, 4, 36, 11, 12, 13, 10]
  | 6 => [0, 1, 5, 6, 2, 3, 4, 33, 10]
  | 7 => [0, 1, 27, 7, 32, 8, 38, 5, 9, 60, 68, 6, 4]
  | 8 => [3, 0, 9, 106, 5, 4, 129, 137, 2]
  | 9 => [0, 1, 3, 7, 2, 10, 4, 15]
  | 10 => [0, 1, 2, 3, 12, 4]
  | 11 => [0, 9, 8, 10, 7, 5, 16, 3, 20, 2]
  | 12 => [1, 2, 0]
  | 13 => [0, 1, 2, 3, 4]
  | 14 => [0, 1, 2, 3, 12, 4]
  | 15 => [0, 3, 1, 2, 33, 36, 35, 37, 34, 7, 8, 48, 6]
  | 16 => [0, 1, 2, 3, 4, 14, 6, 5]
  | 17 => [0, 1, 3, 4, 14, 6, 2]
  | 18 => [0, 1, 2, 7, 3, 4]
  | 19 => [0, 3, 1, 18, 7, 22, 35, 2, 6]
  | 20 => [0, 1, 2]
  | 21 => [6, 0, 10, 5, 1, 4]
  | 22 => [0, 1, 10, 5, 14, 25, 4]
  | 23 => [0, 1, 2]
  | 24 => [0, 1, 3, 4, 2, 6]
  | 25 => [0, 1, 2, 3, 4]
  | 26 => [0, 9, 8, 10, 7, 5, 24, 3, 27, 2]
  | 27 => [0, 1, 2, 16, 4, 35, 34, 36, 33, 5, 7]
  | 28 => [0, 9, 8, 10, 7, 6, 1, 5, 19, 4]
  | 29 => [0, 1, 4]
  | 30 => [0, 1, 10, 13, 12, 14, 5, 24, 4]
  | 31 => [0, 1, 2, 4]
  | 32 => [0, 1, 3, 4, 2, 5]
  | 33 => [0, 1, 4, 12, 3, 6, 16, 2, 26, 25, 27, 24, 11, 33, 7, 37, 8, 44, 9, 53, 60]
  | 34 => [8, 0, 12, 7, 1, 2, 6]
  | 35 => [5, 0, 9, 1, 20, 4]
  | 36 => [0, 1, 2, 4]
  | 37 => [0]
  | 38 => [0, 2]
  | 39 => [0, 1, 2, 6, 3, 4, 9]
  | 40 => [1, 0, 8, 4]
  | 41 => [0, 4, 2]
  | 42 => [0, 11, 10, 12, 7, 2, 8, 1, 6]
  | 43 => [0, 8, 15, 14, 16, 13, 3, 5, 2]
  | 44 => [0, 8, 7, 9, 6, 3, 5, 2]
  | 45 => [0]
  | 46 => [0, 1, 2]
  | 47 => [0, 4]
  | 48 => [0, 2]
  | 49 => [0, 9, 8, 10, 7, 5, 15, 3, 2]
  | 50 => [0, 1, 2, 3, 4]
  | 51 => [1, 0, 8, 4]
  | 52 => [0, 7, 6, 8, 5, 4, 16, 2]
  | 53 => [0, 1, 4, 13, 3, 6, 16, 10, 2, 24, 11, 7, 8, 39, 9, 49, 55, 62]
  | 54 => [0, 1, 2, 3, 4]
  | 55 => [0, 1, 2]
  | _ => []
noncomputable def inl : Nat → Option Func
  | 3 => some Try.f3
  | 4 => some Try.f4
  | 5 => some Try.f5
  | 6 => some Try.f6
  | 7 => some Try.f7
  | 8 => some Try.f8
  | 9 => some Try.f9
  | 10 => some Try.f10
  | 11 => some Try.f11
  | 12 => some Try.f12
  | 13 => some Try.f13
  | 14 => some Try.f14
  | 15 => some Try.f15
  | 16 => some Try.f16
  | 17 => some Try.f17
  | 18 => some Try.f18
  | 19 => some Try.f19
  | 20 => some Try.f20
  | 21 => some Try.f21
  | 22 => some Try.f22
  | 23 => some Try.f23
  | 24 => some Try.f24
  | 25 => some Try.f25
  | 26 => some Try.f26
  | 27 => some Try.f27
  | 28 => some Try.f28
  | 29 => some Try.f29
  | 30 => some Try.f30
  | 31 => some Try.f31
  | 32 => some Try.f32
  | 33 => some Try.f33
  | 34 => some Try.f34
  | 35 => some Try.f35
  | 36 => some Try.f36
  | 37 => some Try.f37
  | 38 => some Try.f38
  | 39 => some Try.f39
  | 40 => some Try.f40
  | 41 => some Try.f41
  | 42 => some Try.f42
  | 43 => some Try.f43
  | 44 => some Try.f44
  | 45 => some Try.f45
  | 46 => some Try.f46
  | 47 => some Try.f47
  | 48 => some Try.f48
  | 49 => some Try.f49
  | 50 => some Try.f50
  | 51 => some Try.f51
  | 52 => some Try.f52
  | 53 => some Try.f53
  | 54 => some Try.f54
  | 55 => some Try.f55
  | _ => none
theorem tab_ok : tabB Try.prog tab = true := by kernel_rfl
theorem cmps_ok : cmpsB Try.prog tab = true := by kernel_rfl
theorem mixed : Try.prog.follows .mixedOrders = true := by kernel_rfl
theorem inl_ok : ∀ g fn, inl g = some fn → Try.prog.funcs[g]? = some fn ∧ (fn.name == "runtime.NumGoroutine") = false := by
  intro g fn h
  unfold inl at h
  split at h
  · cases h; exact ⟨Try.func3, by kernel_rfl⟩
  · cases h; exact ⟨Try.func4, by kernel_rfl⟩
  · cases h; exact ⟨Try.func5, by kernel_rfl⟩
  · cases h; exact ⟨Try.func6, by kernel_rfl⟩
  · cases h; exact ⟨Try.func7, by kernel_rfl⟩
  · cases h; exact ⟨Try.func8, by kernel_rfl⟩
  · cases h; exact ⟨Try.func9, by kernel_rfl⟩
  · cases h; exact ⟨Try.func10, by kernel_rfl⟩
  · cases h; exact ⟨Try.func11, by kernel_rfl⟩
  · cases h; exact ⟨Try.func12, by kernel_rfl⟩
  · cases h; exact ⟨Try.func13, by kernel_rfl⟩
  · cases h; exact ⟨Try.func14, by kernel_rfl⟩
  · cases h; exact ⟨Try.func15, by kernel_rfl⟩
  · cases h; exact ⟨Try.func16, by kernel_rfl⟩
  · cases h; exact ⟨Try.func17, by kernel_rfl⟩
  · cases h; exact ⟨Try.func18, by kernel_rfl⟩
  · cases h; exact ⟨Try.func19, by kernel_rfl⟩
  · cases h; exact ⟨Try.func20, by kernel_rfl⟩
  · cases h; exact ⟨Try.func21, by kernel_rfl⟩
  · cases h; exact ⟨Try.func22, by kernel_rfl⟩
  · cases h; exact ⟨Try.func23, by kernel_rfl⟩
  · cases h; exact ⟨Try.func24, by kernel_rfl⟩
  · cases h; exact ⟨Try.func25, by kernel_rfl⟩
  · cases h; exact ⟨Try.func26, by kernel_rfl⟩
  · cases h; exact ⟨Try.func27, by kernel_rfl⟩
  · cases h; exact ⟨Try.func28, by kernel_rfl⟩
  · cases h; exact ⟨Try.func29, by kernel_rfl⟩
  · cases h; exact ⟨Try.func30, by kernel_rfl⟩
  · cases h; exact ⟨Try.func31, by kernel_rfl⟩
  · cases h; exact ⟨Try.func32, by kernel_rfl⟩
  · cases h; exact ⟨Try.func33, by kernel_rfl⟩
  · cases h; exact ⟨Try.func34, by kernel_rfl⟩
  · cases h; exact ⟨Try.func35, by kernel_rfl⟩
  · cases h; exact ⟨Try.func36, by kernel_rfl⟩
  · cases h; exact ⟨Try.func37, by kernel_rfl⟩
  · cases h; exact ⟨Try.func38, by kernel_rfl⟩
  · cases h; exact ⟨Try.func39, by kernel_rfl⟩
  · cases h; exact ⟨Try.func40, by kernel_rfl⟩
  · cases h; exact ⟨Try.func41, by kernel_rfl⟩
  · cases h; exact ⟨Try.func42, by kernel_rfl⟩
  · cases h; exact ⟨Try.func43, by kernel_rfl⟩
  · cases h; exact ⟨Try.func44, by kernel_rfl⟩
  · cases h; exact ⟨Try.func45, by kernel_rfl⟩
  · cases h; exact ⟨Try.func46, by kernel_rfl⟩
  · cases h; exact ⟨Try.func47, by kernel_rfl⟩
  · cases h; exact ⟨Try.func48, by kernel_rfl⟩
  · cases h; exact ⟨Try.func49, by kernel_rfl⟩
  · cases h; exact ⟨Try.func50, by kernel_rfl⟩
  · cases h; exact ⟨Try.func51, by kernel_rfl⟩
  · cases h; exact ⟨Try.func52, by kernel_rfl⟩
  · cases h; exact ⟨Try.func53, by kernel_rfl⟩
  · cases h; exact ⟨Try.func54, by kernel_rfl⟩
  · cases h; exact ⟨Try.func55, by kernel_rfl⟩
  · cases h
end Go.Proofs.Ytpahnadbknjepaa.Ex

/- What is asked of environments. -/
namespace Go.Proofs.Ytpahnadbknjepaa.Ex
abbrev I := Int × Int
def aI (x : I) : AV := .agg [.int .i64 x.1, .int .i64 x.2]
def aN (n : Int) : AV := .int .i64 n
def gI : AV → Option I
  | .agg [.int .i64 a, .int .i64 b] => some (a, b)
  | _ => none
def gN : AV → Option Int
  | .int .i64 n => some n
  | _ => none
theorem gI_some {v : AV} {x : I} (e : gI v = some x) : v = aI x := by
  unfold gI at e
  split at e
  · cases e; rfl
  · cases e
theorem gN_some {v : AV} {n : Int} (e : gN v = some n) : v = aN n := by
  unfold gN at e
  split at e
  · cases e; rfl
  · cases e
def tI : Ty := .st (.pair (.int .i64) (.int .i64))
def retV (v : AV) : Option (Bool × AV × List Blk) := some (true, v, [])
noncomputable def ev (cx : Ctx) (g : FuncId) (args : List AV) : Option (AV × Hp) := run ((evF cx keeps 3 g args).bind (finP true)) false ⟨[], 0⟩ ⟨[], []⟩ fun v h _ => some (v, h)
def outV (v : AV) : Option (AV × Hp) := some (v, ⟨[], 0⟩)
theorem ev_ex {cx : Ctx} {g : FuncId} {args : List AV} {v : AV} (e : ev cx g args = outV v) : ∃ fb, ex ((evF cx keeps 3 g args).bind (finP true)) false ⟨[], 0⟩ ⟨[], []⟩ = some (v, ⟨enumB 0 [], List.length ([] : List Blk)⟩, fb) := by
  unfold ev at e
  rw [run_ex] at e
  obtain ⟨⟨v', h', f'⟩, h1, h2⟩ := Option.bind_eq_some_iff.1 e
  cases h2
  exact ⟨f', h1⟩
def nn : I := (1, 0)
def aa : I := (-2147483648, 2147483647)
def empB (x : I) : Bool := decide (x.1 > x.2)
def fitB (n : Int) : Bool := decide (n ≥ -2147483648) && decide (n ≤ 2147483647)
def isB (x : I) : Bool := (x.1 == 1 && x.2 == 0) || (decide (x.1 ≤ x.2) && (fitB x.1 && fitB x.2))
def leqB (x y : I) : Bool := empB x || (decide (x.1 ≥ y.1) && decide (x.2 ≤ y.2))
def hasB (x : I) (n : Int) : Bool := decide (n ≥ x.1) && decide (n ≤ x.2)
def mn (a b : Int) : Int := if b < a then b else a
def mx (a b : Int) : Int := if b > a then b else a
def iMeet (x y : I) : I := if empB x then nn else if empB y then nn else if empB (mx x.1 y.1, mn x.2 y.2) then nn else (mx x.1 y.1, mn x.2 y.2)
def iJoin (x y : I) : I := if empB x then (if empB y then nn else y) else if empB y then x else (mn x.1 y.1, mx x.2 y.2)
def rJoin (x y : I) : I := if empB x then y else if empB y then x else (mn x.1 y.1, mx x.2 y.2)
def iSpan (a b : Int) : I := if a > b then nn else (a, b)
def gL2 : AV → Option (I × I)
  | .sl (.st (.pair (.int .i64) (.int .i64))) l => match l with
    | [a, b] => some (show I × I from (a, b))
    | _ => none
  | _ => none
def aL2 (x : I × I) : AV := .sl tI [x.1, x.2]
theorem gL2_some {v : AV} {x : I × I} (e : gL2 v = some x) : v = aL2 x := by
  unfold gL2 at e
  split at e
  · split at e
    · cases e; rfl
    · cases e
  · cases e
def gM1 : AV → Option Int
  | .sl (.int .i64) l => match l with
    | [a] => some (show Int from a)
    | _ => none
  | _ => none
def aM1 (x : Int) : AV := .sl (.int .i64) [x]
theorem gM1_some {v : AV} {x : Int} (e : gM1 v = some x) : v = aM1 x := by
  unfold gM1 at e
  split at e
  · split at e
    · cases e; rfl
    · cases e
  · cases e
def gM2 : AV → Option (Int × Int)
  | .sl (.int .i64) l => match l with
    | [a, b] => some (show Int × Int from (a, b))
    | _ => none
  | _ => none
def aM2 (x : Int × Int) : AV := .sl (.int .i64) [x.1, x.2]
theorem gM2_some {v : AV} {x : Int × Int} (e : gM2 v = some x) : v = aM2 x := by
  unfold gM2 at e
  split at e
  · split at e
    · cases e; rfl
    · cases e
  · cases e
def gB : AV → Option Bool
  | .bool b => some b
  | _ => none
theorem gB_some {v : AV} {x : Bool} (e : gB v = some x) : v = .bool x := by
  unfold gB at e
  split at e
  · cases e; rfl
  · cases e
theorem wrap_id {n : Int} (h : -9223372036854775808 ≤ n) (h' : n ≤ 9223372036854775807) : IntKind.i64.wrap n = n := by
  have : IntKind.i64.wrap n = (n + 9223372036854775808) % 18446744073709551616 - 9223372036854775808 := by
    simp [IntKind.wrap, IntKind.signed, IntKind.bits]
    split <;> omega
  rw [this]; omega
theorem wr {n : Int} (h : n.natAbs ≤ 4611686018427387904) : IntKind.i64.wrap n = n := wrap_id (by omega) (by omega)
theorem mul_abs {a b : Int} (ha : a.natAbs ≤ 2147483648) (hb : b.natAbs ≤ 2147483648) : (a * b).natAbs ≤ 4611686018427387904 := by
  rw [Int.natAbs_mul]
  exact Nat.mul_le_mul ha hb
theorem div_abs {a b : Int} {n : Nat} (ha : a.natAbs ≤ n) : (a.tdiv b).natAbs ≤ n := by
  rw [Int.natAbs_tdiv]
  exact Nat.le_trans (Nat.div_le_self _ _) ha
theorem mod_abs {a b : Int} {n : Nat} (ha : a.natAbs ≤ n) : (a.tmod b).natAbs ≤ n := by
  rw [Int.natAbs_tmod]
  exact Nat.le_trans (Nat.mod_le _ _) ha
theorem mod_lt {a b : Int} (hb : b ≠ 0) : (a.tmod b).natAbs < b.natAbs := by
  rw [Int.natAbs_tmod]
  exact Nat.mod_lt _ (by omega)
theorem fit_abs {a : Int} (h : fitB a = true) : a.natAbs ≤ 2147483648 := by
  simp only [fitB, Bool.and_eq_true, decide_eq_true_eq] at h; omega
theorem isB_abs {x : I} (h : isB x = true) : x.1.natAbs ≤ 2147483648 ∧ x.2.natAbs ≤ 2147483648 := by
  simp only [isB, fitB, Bool.and_eq_true, Bool.or_eq_true, decide_eq_true_eq, beq_iff_eq] at h; omega
theorem mn_def (a b : Int) : (if b < a then b else a) = mn a b := rfl
theorem mx_def (a b : Int) : (if b > a then b else a) = mx a b := rfl
def mul4 (x y : I) : I := (mn (mn (mn (x.1 * y.1) (x.1 * y.2)) (x.2 * y.1)) (x.2 * y.2), mx (mx (mx (x.1 * y.1) (x.1 * y.2)) (x.2 * y.1)) (x.2 * y.2))
def div4 (x y : I) : I := (mn (mn (mn (x.1.tdiv y.1) (x.1.tdiv y.2)) (x.2.tdiv y.1)) (x.2.tdiv y.2), mx (mx (mx (x.1.tdiv y.1) (x.1.tdiv y.2)) (x.2.tdiv y.1)) (x.2.tdiv y.2))
def pickV (x : I) (n : Int) : Int := x.1 + ((n.tmod (x.2 - x.1 + 1)) + (x.2 - x.1 + 1)).tmod (x.2 - x.1 + 1)
def noZ (y : I) : Bool := !(y.1 == 0) && !(y.2 == 0)
def doR (op a b : Int) : Int × Int :=
  if !fitB a || !fitB b || decide (op < 1) || decide (op > 5) then (0, 1) else if decide (op ≥ 4) && b == 0 then (0, 8) else
  let n := if op = 1 then a + b else if op = 2 then a - b else if op = 3 then a * b else if op = 4 then a.tdiv b else a.tmod b
  if fitB n then (n, 0) else (0, 7)
def relR (r a b : Int) : Bool := if r = 1 then decide (a < b) else if r = 2 then decide (a ≤ b) else if r = 3 then a == b else if r = 4 then a != b else if r = 5 then decide (a ≥ b) else if r = 6 then decide (a > b) else false
def wout (x y : I) : I := if y.1 = y.2 then (if x.1 = y.1 then (x.1 + 1, x.2) else if x.2 = y.1 then (x.1, x.2 - 1) else x) else x
def remI (x y : I) : I := if y.1 = 0 ∧ y.2 = 0 then nn else
  let m := mx (mx (mx y.2 (-y.2)) y.1) (-y.1) - 1
  (if x.1 < 0 then mx x.1 (-m) else 0, if x.2 > 0 then mn x.2 m else 0)
def aLi (l : List Int) : AV := .sl (.int .i64) l
def gLi : AV → Option (List Int)
  | .sl (.int .i64) l => some l
  | _ => none
theorem gLi_some {v : AV} {x : List Int} (e : gLi v = some x) : v = aLi x := by
  unfold gLi at e
  split at e
  · cases e; rfl
  · cases e
def aLI (l : List I) : AV := .sl tI l
def gLI : AV → Option (List I)
  | .sl (.st (.pair (.int .i64) (.int .i64))) l => some l
  | _ => none
theorem gLI_some {v : AV} {x : List I} (e : gLI v = some x) : v = aLI x := by
  unfold gLI at e
  split at e
  · cases e; rfl
  · cases e
def okLen (l : List Int) : Bool := decide ((l.length : Int) ≤ 4611686018427387904)

noncomputable def evU (un : List (Nat × Ty)) (cx : Ctx) (g : FuncId) (args : List AV) : Option (AV × Hp) := run (((fun args => (evF cx keeps 3 g args).bind fun v => .ret (unnil un v)) args).bind (finP true)) false ⟨[], 0⟩ ⟨[], []⟩ fun v h _ => some (v, h)
theorem evU_ex {un : List (Nat × Ty)} {cx : Ctx} {g : FuncId} {args : List AV} {v : AV} (e : evU un cx g args = outV v) : ∃ fb, ex (((fun args => (evF cx keeps 3 g args).bind fun v => .ret (unnil un v)) args).bind (finP true)) false ⟨[], 0⟩ ⟨[], []⟩ = some (v, ⟨enumB 0 [], List.length ([] : List Blk)⟩, fb) := by
  unfold evU at e
  rw [run_ex] at e
  obtain ⟨⟨v1, h1, f1⟩, e1, e2⟩ := Option.bind_eq_some_iff.1 e
  cases e2
  exact ⟨f1, e1⟩
def unE : List (Nat × Ty) := [(1, tI), (2, tI), (3, tI)]
abbrev E := Bool × List I × List I × List I × Int × Int
def tE : Ty := .st (.pair .bool (.pair (.sl tI) (.pair (.sl tI) (.pair (.sl tI) (.pair (.int .i64) (.int .i64))))))
def aE (e : E) : AV := .agg [.bool e.1, .sl tI e.2.1, .sl tI e.2.2.1, .sl tI e.2.2.2.1, .int .i64 e.2.2.2.2.1, .int .i64 e.2.2.2.2.2]
def gE : AV → Option E
  | .agg [.bool b, .sl (.st (.pair (.int .i64) (.int .i64))) v, .sl (.st (.pair (.int .i64) (.int .i64))) g, .sl (.st (.pair (.int .i64) (.int .i64))) a, .int .i64 m, .int .i64 y] => some (b, v, g, a, m, y)
  | _ => none
theorem gE_some {v : AV} {x : E} (e : gE v = some x) : v = aE x := by
  unfold gE at e
  split at e
  · cases e; rfl
  · cases e
def aLE (l : List E) : AV := .sl tE l
def gLE : AV → Option (List E)
  | .sl (.st (.pair .bool (.pair (.sl (.st (.pair (.int .i64) (.int .i64)))) (.pair (.sl (.st (.pair (.int .i64) (.int .i64)))) (.pair (.sl (.st (.pair (.int .i64) (.int .i64)))) (.pair (.int .i64) (.int .i64))))))) l => some l
  | _ => none
theorem gLE_some {v : AV} {x : List E} (e : gLE v = some x) : v = aLE x := by
  unfold gLE at e
  split at e
  · cases e; rfl
  · cases e
noncomputable def bodyX (g b : Nat) : Code := ((inl g).bind (·.body)).elim .skip (lpx · b)
def atV (l : List I) (i : Int) : I := if i ≥ (l.length : Nat) then nn else (l[i.toNat]?).getD nn
def andV (a b : Int) : Int := IntKind.i64.wrap (BitVec.ofInt IntKind.i64.bits a &&& BitVec.ofInt IntKind.i64.bits b).toNat
theorem ofInt_wrap (x : BitVec 64) : BitVec.ofInt 64 (IntKind.i64.wrap (x.toNat : Int)) = x := by
  have h : IntKind.i64.wrap (x.toNat : Int) = ((x.toNat : Int) + 9223372036854775808) % 18446744073709551616 - 9223372036854775808 := by
    simp [IntKind.wrap, IntKind.signed, IntKind.bits]
    split <;> omega
  rw [h]
  apply BitVec.eq_of_toNat_eq
  rw [BitVec.toNat_ofInt]
  have := x.isLt
  omega
theorem ofInt_or (a : Int) : BitVec.ofInt IntKind.i64.bits (IntKind.i64.wrap ((BitVec.ofInt IntKind.i64.bits 0 ||| BitVec.ofInt IntKind.i64.bits a).toNat : Int)) = BitVec.ofInt IntKind.i64.bits a := by
  have e : (BitVec.ofInt IntKind.i64.bits 0 ||| BitVec.ofInt IntKind.i64.bits a) = BitVec.ofInt IntKind.i64.bits a := by
    have z : BitVec.ofInt IntKind.i64.bits 0 = 0#64 := rfl
    rw [z]; exact BitVec.zero_or
  rw [e]; exact ofInt_wrap _
def orV (a b : Int) : Int := IntKind.i64.wrap (BitVec.ofInt IntKind.i64.bits a ||| BitVec.ofInt IntKind.i64.bits b).toNat
end Go.Proofs.Ytpahnadbknjepaa.Ex

/- Contracts, level 0. -/
namespace Go.Proofs.Ytpahnadbknjepaa.Ex
open Go.Proofs Go.Proofs.Ytpahnadbknjepaa
set_option maxRecDepth 100000
set_option linter.unusedSimpArgs false
set_option linter.unusedVariables false
def sp0 : Nat → Option (List AV → Prog AV)
  | _ => none
noncomputable def cx0 : Ctx := { tab := tab, spec := sp0, inl := inl, lps := fun _ _ => none, fuel := 10 }
theorem hsp0 : ∀ g p, cx0.spec g = some p → SoundA Try.prog g p := by
  intro g p h
  change sp0 g = some p at h
  unfold sp0 at h
  split at h
  · cases h
theorem in0 : InlOk Try.prog cx0 := ⟨inl_ok, fun _ _ _ _ _ _ _ _ h => nomatch h⟩
theorem cal0 (g : Nat) : SoundA Try.prog g (evF cx0 keeps 3 g) := evF_sound (tabOk_of tab_ok) (cmpsOk_of tab_ok cmps_ok) mixed in0 hsp0 keeps 3 g
end Go.Proofs.Ytpahnadbknjepaa.Ex

/- What is run, level 0. -/
namespace Go.Proofs.Ytpahnadbknjepaa.Ex
open Go.Proofs Go.Proofs.Ytpahnadbknjepaa
set_option maxRecDepth 100000
theorem raw46 (x : I) : ev cx0 46 [aI x] =
  Option.some (Go.Proofs.Ytpahnadbknjepaa.Ex.AV.bool (Decidable.decide (x.fst > x.snd)), { blks := [], c := 0 }) := by kernel_rfl
theorem raw55 (x : I) : ev cx0 55 [aI x] =
  Option.some (Go.Proofs.Ytpahnadbknjepaa.Ex.AV.bool (Decidable.decide (x.fst > x.snd)), { blks := [], c := 0 }) := by kernel_rfl
theorem raw45  : ev cx0 45 [] =
  Option.some (Go.Proofs.Ytpahnadbknjepaa.Ex.AV.agg [Go.Proofs.Ytpahnadbknjepaa.Ex.AV.int Go.IntKind.i64 1, Go.Proofs.Ytpahnadbknjepaa.Ex.AV.int Go.IntKind.i64 0], { blks := [], c := 0 }) := by kernel_rfl
theorem raw37  : ev cx0 37 [] =
  Option.some (Go.Proofs.Ytpahnadbknjepaa.Ex.AV.agg [Go.Proofs.Ytpahnadbknjepaa.Ex.AV.int Go.IntKind.i64 1, Go.Proofs.Ytpahnadbknjepaa.Ex.AV.int Go.IntKind.i64 0], { blks := [], c := 0 }) := by kernel_rfl
theorem raw38 (n : Int) : ev cx0 38 [aN n] =
  bif Decidable.decide (n ≥ -2147483648) then Option.some (Go.Proofs.Ytpahnadbknjepaa.Ex.AV.bool (Decidable.decide (n ≤ 2147483647)), { blks := [], c := 0 }) else Option.some (Go.Proofs.Ytpahnadbknjepaa.Ex.AV.bool Bool.false, { blks := [], c := 0 }) := by kernel_rfl
theorem raw31 (x : I) (n : Int) : ev cx0 31 [aI x, aN n] =
  bif Decidable.decide (n ≥ x.fst) then Option.some (Go.Proofs.Ytpahnadbknjepaa.Ex.AV.bool (Decidable.decide (n ≤ x.snd)), { blks := [], c := 0 }) else Option.some (Go.Proofs.Ytpahnadbknjepaa.Ex.AV.bool Bool.false, { blks := [], c := 0 }) := by kernel_rfl
theorem raw36 (x : I) (n : Int) : ev cx0 36 [aI x, aN n] =
  bif Decidable.decide (n ≥ x.fst) then Option.some (Go.Proofs.Ytpahnadbknjepaa.Ex.AV.bool (Decidable.decide (n ≤ x.snd)), { blks := [], c := 0 }) else Option.some (Go.Proofs.Ytpahnadbknjepaa.Ex.AV.bool Bool.false, { blks := [], c := 0 }) := by kernel_rfl
theorem raw43 (z : Int × Int) : ev cx0 43 [aM2 z] =
  Option.some (Go.Proofs.Ytpahnadbknjepaa.Ex.AV.int Go.IntKind.i64 (Go.IntKind.i64.wrap (↑(BitVec.ofInt Go.IntKind.i64.bits z.fst &&& BitVec.ofInt Go.IntKind.i64.bits z.snd).toNat : Int)), { blks := [], c := 0 }) := by kernel_rfl
theorem raw44 (z : Int × Int) : ev cx0 44 [aM2 z] =
  Option.some
    (Go.Proofs.Ytpahnadbknjepaa.Ex.AV.int Go.IntKind.i64
        (Go.IntKind.i64.wrap
          (↑(BitVec.ofInt Go.IntKind.i64.bits (Go.IntKind.i64.wrap (↑(BitVec.ofInt Go.IntKind.i64.bits 0 ||| BitVec.ofInt Go.IntKind.i64.bits z.fst).toNat : Int)) |||
                  BitVec.ofInt Go.IntKind.i64.bits z.snd).toNat :
            Int)),
      { blks := [], c := 0 }) := by kernel_rfl
end Go.Proofs.Ytpahnadbknjepaa.Ex

/- Contracts, level 0. -/
namespace Go.Proofs.Ytpahnadbknjepaa.Ex
open Go.Proofs Go.Proofs.Ytpahnadbknjepaa
set_option maxRecDepth 100000
set_option linter.unusedSimpArgs false
set_option linter.unusedVariables false
theorem ok46 (x : I) : ev cx0 46 [aI x] = outV (.bool (empB x)) := by
  rw [raw46]
  rfl
theorem ok55 (x : I) : ev cx0 55 [aI x] = outV (.bool (empB x)) := by
  rw [raw55]
  rfl
theorem ok45  : ev cx0 45 [] = outV (aI nn) := by
  rw [raw45]
  rfl
theorem ok37  : ev cx0 37 [] = outV (aI nn) := by
  rw [raw37]
  rfl
theorem ok38 (n : Int) : ev cx0 38 [aN n] = outV (.bool (fitB n)) := by
  rw [raw38]
  unfold fitB; cases decide (n ≥ -2147483648) <;> rfl
theorem ok31 (x : I) (n : Int) : ev cx0 31 [aI x, aN n] = outV (.bool (hasB x n)) := by
  rw [raw31]
  unfold hasB; cases decide (n ≥ x.1) <;> rfl
theorem ok36 (x : I) (n : Int) : ev cx0 36 [aI x, aN n] = outV (.bool (hasB x n)) := by
  rw [raw36]
  unfold hasB; cases decide (n ≥ x.1) <;> rfl
theorem ok43 (z : Int × Int) : ev cx0 43 [aM2 z] = outV (aN (andV z.1 z.2)) := by
  rw [raw43]
  rfl
theorem ok44 (z : Int × Int) : ev cx0 44 [aM2 z] = outV (aN (orV z.1 z.2)) := by
  rw [raw44]
  rw [ofInt_or]; rfl
def M46 : List AV → Option (Bool × AV × List Blk)
  | [v_x] => (gI v_x).bind fun x => some (true, .bool (empB x), [])
  | _ => none
theorem hM46 (args : List AV) (v : AV) (bs : List Blk) (h : M46 args = some (true, v, bs)) : AV.idsL args = [] ∧ (true = true ∨ (plainV v = true ∧ bs.all plainB = true)) ∧ ∃ fb, ex ((evF cx0 keeps 3 46 args).bind (finP true)) false ⟨[], 0⟩ ⟨[], []⟩ = some (v, ⟨enumB 0 bs, bs.length⟩, fb) := by
  unfold M46 at h
  split at h
  · obtain ⟨x, h_x, h0⟩ := Option.bind_eq_some_iff.1 h
    simp only [Option.some.injEq, Prod.mk.injEq] at h0
    obtain ⟨_, rfl, rfl⟩ := h0
    have e_x := gI_some h_x
    subst e_x
    exact ⟨rfl, .inl rfl, ev_ex (ok46 x)⟩
  · cases h
theorem snd46 : SoundA Try.prog 46 (specP true M46) := soundA_spec (fz := true) (cal0 46) hM46
def M55 : List AV → Option (Bool × AV × List Blk)
  | [v_x] => (gI v_x).bind fun x => some (true, .bool (empB x), [])
  | _ => none
theorem hM55 (args : List AV) (v : AV) (bs : List Blk) (h : M55 args = some (true, v, bs)) : AV.idsL args = [] ∧ (true = true ∨ (plainV v = true ∧ bs.all plainB = true)) ∧ ∃ fb, ex ((evF cx0 keeps 3 55 args).bind (finP true)) false ⟨[], 0⟩ ⟨[], []⟩ = some (v, ⟨enumB 0 bs, bs.length⟩, fb) := by
  unfold M55 at h
  split at h
  · obtain ⟨x, h_x, h0⟩ := Option.bind_eq_some_iff.1 h
    simp only [Option.some.injEq, Prod.mk.injEq] at h0
    obtain ⟨_, rfl, rfl⟩ := h0
    have e_x := gI_some h_x
    subst e_x
    exact ⟨rfl, .inl rfl, ev_ex (ok55 x)⟩
  · cases h
theorem snd55 : SoundA Try.prog 55 (specP true M55) := soundA_spec (fz := true) (cal0 55) hM55
def M45 : List AV → Option (Bool × AV × List Blk)
  | [] => some (true, aI nn, [])
  | _ => none
theorem hM45 (args : List AV) (v : AV) (bs : List Blk) (h : M45 args = some (true, v, bs)) : AV.idsL args = [] ∧ (true = true ∨ (plainV v = true ∧ bs.all plainB = true)) ∧ ∃ fb, ex ((evF cx0 keeps 3 45 args).bind (finP true)) false ⟨[], 0⟩ ⟨[], []⟩ = some (v, ⟨enumB 0 bs, bs.length⟩, fb) := by
  unfold M45 at h
  split at h
  · have h0 := h
    have h0 : (true, _, _) = (true, v, bs) := Option.some.inj h0
    simp only [Prod.mk.injEq] at h0
    obtain ⟨_, rfl, rfl⟩ := h0
    exact ⟨rfl, .inl rfl, ev_ex (ok45 )⟩
  · cases h
theorem snd45 : SoundA Try.prog 45 (specP true M45) := soundA_spec (fz := true) (cal0 45) hM45
def M37 : List AV → Option (Bool × AV × List Blk)
  | [] => some (true, aI nn, [])
  | _ => none
theorem hM37 (args : List AV) (v : AV) (bs : List Blk) (h : M37 args = some (true, v, bs)) : AV.idsL args = [] ∧ (true = true ∨ (plainV v = true ∧ bs.all plainB = true)) ∧ ∃ fb, ex ((evF cx0 keeps 3 37 args).bind (finP true)) false ⟨[], 0⟩ ⟨[], []⟩ = some (v, ⟨enumB 0 bs, bs.length⟩, fb) := by
  unfold M37 at h
  split at h
  · have h0 := h
    have h0 : (true, _, _) = (true, v, bs) := Option.some.inj h0
    simp only [Prod.mk.injEq] at h0
    obtain ⟨_, rfl, rfl⟩ := h0
    exact ⟨rfl, .inl rfl, ev_ex (ok37 )⟩
  · cases h
theorem snd37 : SoundA Try.prog 37 (specP true M37) := soundA_spec (fz := true) (cal0 37) hM37
def M38 : List AV → Option (Bool × AV × List Blk)
  | [v_n] => (gN v_n).bind fun n => some (true, .bool (fitB n), [])
  | _ => none
theorem hM38 (args : List AV) (v : AV) (bs : List Blk) (h : M38 args = some (true, v, bs)) : AV.idsL args = [] ∧ (true = true ∨ (plainV v = true ∧ bs.all plainB = true)) ∧ ∃ fb, ex ((evF cx0 keeps 3 38 args).bind (finP true)) false ⟨[], 0⟩ ⟨[], []⟩ = some (v, ⟨enumB 0 bs, bs.length⟩, fb) := by
  unfold M38 at h
  split at h
  · obtain ⟨n, h_n, h0⟩ := Option.bind_eq_some_iff.1 h
    simp only [Option.some.injEq, Prod.mk.injEq] at h0
    obtain ⟨_, rfl, rfl⟩ := h0
    have e_n := gN_some h_n
    subst e_n
    exact ⟨rfl, .inl rfl, ev_ex (ok38 n)⟩
  · cases h
theorem snd38 : SoundA Try.prog 38 (specP true M38) := soundA_spec (fz := true) (cal0 38) hM38
def M31 : List AV → Option (Bool × AV × List Blk)
  | [v_x, v_n] => (gI v_x).bind fun x => (gN v_n).bind fun n => some (true, .bool (hasB x n), [])
  | _ => none
theorem hM31 (args : List AV) (v : AV) (bs : List Blk) (h : M31 args = some (true, v, bs)) : AV.idsL args = [] ∧ (true = true ∨ (plainV v = true ∧ bs.all plainB = true)) ∧ ∃ fb, ex ((evF cx0 keeps 3 31 args).bind (finP true)) false ⟨[], 0⟩ ⟨[], []⟩ = some (v, ⟨enumB 0 bs, bs.length⟩, fb) := by
  unfold M31 at h
  split at h
  · obtain ⟨x, h_x, h0⟩ := Option.bind_eq_some_iff.1 h
    obtain ⟨n, h_n, h1⟩ := Option.bind_eq_some_iff.1 h0
    simp only [Option.some.injEq, Prod.mk.injEq] at h1
    obtain ⟨_, rfl, rfl⟩ := h1
    have e_x := gI_some h_x
    have e_n := gN_some h_n
    subst e_x e_n
    exact ⟨rfl, .inl rfl, ev_ex (ok31 x n)⟩
  · cases h
theorem snd31 : SoundA Try.prog 31 (specP true M31) := soundA_spec (fz := true) (cal0 31) hM31
def M36 : List AV → Option (Bool × AV × List Blk)
  | [v_x, v_n] => (gI v_x).bind fun x => (gN v_n).bind fun n => some (true, .bool (hasB x n), [])
  | _ => none
theorem hM36 (args : List AV) (v : AV) (bs : List Blk) (h : M36 args = some (true, v, bs)) : AV.idsL args = [] ∧ (true = true ∨ (plainV v = true ∧ bs.all plainB = true)) ∧ ∃ fb, ex ((evF cx0 keeps 3 36 args).bind (finP true)) false ⟨[], 0⟩ ⟨[], []⟩ = some (v, ⟨enumB 0 bs, bs.length⟩, fb) := by
  unfold M36 at h
  split at h
  · obtain ⟨x, h_x, h0⟩ := Option.bind_eq_some_iff.1 h
    obtain ⟨n, h_n, h1⟩ := Option.bind_eq_some_iff.1 h0
    simp only [Option.some.injEq, Prod.mk.injEq] at h1
    obtain ⟨_, rfl, rfl⟩ := h1
    have e_x := gI_some h_x
    have e_n := gN_some h_n
    subst e_x e_n
    exact ⟨rfl, .inl rfl, ev_ex (ok36 x n)⟩
  · cases h
theorem snd36 : SoundA Try.prog 36 (specP true M36) := soundA_spec (fz := true) (cal0 36) hM36
def M43 : List AV → Option (Bool × AV × List Blk)
  | [v_z] => (gM2 v_z).bind fun z => some (true, aN (andV z.1 z.2), [])
  | _ => none
theorem hM43 (args : List AV) (v : AV) (bs : List Blk) (h : M43 args = some (true, v, bs)) : AV.idsL args = [] ∧ (true = true ∨ (plainV v = true ∧ bs.all plainB = true)) ∧ ∃ fb, ex ((evF cx0 keeps 3 43 args).bind (finP true)) false ⟨[], 0⟩ ⟨[], []⟩ = some (v, ⟨enumB 0 bs, bs.length⟩, fb) := by
  unfold M43 at h
  split at h
  · obtain ⟨z, h_z, h0⟩ := Option.bind_eq_some_iff.1 h
    simp only [Option.some.injEq, Prod.mk.injEq] at h0
    obtain ⟨_, rfl, rfl⟩ := h0
    have e_z := gM2_some h_z
    subst e_z
    exact ⟨rfl, .inl rfl, ev_ex (ok43 z)⟩
  · cases h
theorem snd43 : SoundA Try.prog 43 (specP true M43) := soundA_spec (fz := true) (cal0 43) hM43
def M44 : List AV → Option (Bool × AV × List Blk)
  | [v_z] => (gM2 v_z).bind fun z => some (true, aN (orV z.1 z.2), [])
  | _ => none
theorem hM44 (args : List AV) (v : AV) (bs : List Blk) (h : M44 args = some (true, v, bs)) : AV.idsL args = [] ∧ (true = true ∨ (plainV v = true ∧ bs.all plainB = true)) ∧ ∃ fb, ex ((evF cx0 keeps 3 44 args).bind (finP true)) false ⟨[], 0⟩ ⟨[], []⟩ = some (v, ⟨enumB 0 bs, bs.length⟩, fb) := by
  unfold M44 at h
  split at h
  · obtain ⟨z, h_z, h0⟩ := Option.bind_eq_some_iff.1 h
    simp only [Option.some.injEq, Prod.mk.injEq] at h0
    obtain ⟨_, rfl, rfl⟩ := h0
    have e_z := gM2_some h_z
    subst e_z
    exact ⟨rfl, .inl rfl, ev_ex (ok44 z)⟩
  · cases h
theorem snd44 : SoundA Try.prog 44 (specP true M44) := soundA_spec (fz := true) (cal0 44) hM44
end Go.Proofs.Ytpahnadbknjepaa.Ex

/- Contracts, level 1. -/
namespace Go.Proofs.Ytpahnadbknjepaa.Ex
open Go.Proofs Go.Proofs.Ytpahnadbknjepaa
set_option maxRecDepth 100000
set_option linter.unusedSimpArgs false
set_option linter.unusedVariables false
def sp1 : Nat → Option (List AV → Prog AV)
  | 46 => some (specP true M46)
  | 55 => some (specP true M55)
  | 45 => some (specP true M45)
  | 37 => some (specP true M37)
  | 38 => some (specP true M38)
  | 31 => some (specP true M31)
  | 36 => some (specP true M36)
  | 43 => some (specP true M43)
  | 44 => some (specP true M44)
  | _ => none
noncomputable def cx1 : Ctx := { tab := tab, spec := sp1, inl := inl, lps := fun _ _ => none, fuel := 10 }
theorem hsp1 : ∀ g p, cx1.spec g = some p → SoundA Try.prog g p := by
  intro g p h
  change sp1 g = some p at h
  unfold sp1 at h
  split at h
  · cases h; exact snd46
  · cases h; exact snd55
  · cases h; exact snd45
  · cases h; exact snd37
  · cases h; exact snd38
  · cases h; exact snd31
  · cases h; exact snd36
  · cases h; exact snd43
  · cases h; exact snd44
  · cases h
theorem in1 : InlOk Try.prog cx1 := ⟨inl_ok, fun _ _ _ _ _ _ _ _ h => nomatch h⟩
theorem cal1 (g : Nat) : SoundA Try.prog g (evF cx1 keeps 3 g) := evF_sound (tabOk_of tab_ok) (cmpsOk_of tab_ok cmps_ok) mixed in1 hsp1 keeps 3 g
end Go.Proofs.Ytpahnadbknjepaa.Ex

/- What is run, level 1. -/
namespace Go.Proofs.Ytpahnadbknjepaa.Ex
open Go.Proofs Go.Proofs.Ytpahnadbknjepaa
set_option maxRecDepth 100000
theorem raw50 (x : I) (y : I) : ev cx1 50 [aI x, aI y] =
  bif Go.Proofs.Ytpahnadbknjepaa.Ex.empB x then Option.some (Go.Proofs.Ytpahnadbknjepaa.Ex.AV.bool Bool.true, { blks := [], c := 0 })
  else
    bif Decidable.decide (x.fst ≥ y.fst) then Option.some (Go.Proofs.Ytpahnadbknjepaa.Ex.AV.bool (Decidable.decide (x.snd ≤ y.snd)), { blks := [], c := 0 }) else Option.some (Go.Proofs.Ytpahnadbknjepaa.Ex.AV.bool Bool.false, { blks := [], c := 0 }) := by kernel_rfl
theorem raw54 (x : I) (y : I) : ev cx1 54 [aI x, aI y] =
  bif Go.Proofs.Ytpahnadbknjepaa.Ex.empB x then Option.some (Go.Proofs.Ytpahnadbknjepaa.Ex.AV.bool Bool.true, { blks := [], c := 0 })
  else
    bif Decidable.decide (x.fst ≥ y.fst) then Option.some (Go.Proofs.Ytpahnadbknjepaa.Ex.AV.bool (Decidable.decide (x.snd ≤ y.snd)), { blks := [], c := 0 }) else Option.some (Go.Proofs.Ytpahnadbknjepaa.Ex.AV.bool Bool.false, { blks := [], c := 0 }) := by kernel_rfl
theorem raw20 (x : I) : ev cx1 20 [aI x] =
  bif x.fst == Go.Proofs.Ytpahnadbknjepaa.Ex.nn.fst && x.snd == Go.Proofs.Ytpahnadbknjepaa.Ex.nn.snd then Option.some (Go.Proofs.Ytpahnadbknjepaa.Ex.AV.bool Bool.true, { blks := [], c := 0 })
  else
    bif Decidable.decide (x.fst ≤ x.snd) then
      bif Go.Proofs.Ytpahnadbknjepaa.Ex.fitB x.fst then Option.some (Go.Proofs.Ytpahnadbknjepaa.Ex.AV.bool (Go.Proofs.Ytpahnadbknjepaa.Ex.fitB x.snd), { blks := [], c := 0 }) else Option.some (Go.Proofs.Ytpahnadbknjepaa.Ex.AV.bool Bool.false, { blks := [], c := 0 })
    else Option.some (Go.Proofs.Ytpahnadbknjepaa.Ex.AV.bool Bool.false, { blks := [], c := 0 }) := by kernel_rfl
theorem raw39 (x : I) (y : I) : ev cx1 39 [aI x, aI y] =
  bif Go.Proofs.Ytpahnadbknjepaa.Ex.empB x then Option.some (Go.Proofs.Ytpahnadbknjepaa.Ex.AV.agg [Go.Proofs.Ytpahnadbknjepaa.Ex.AV.int Go.IntKind.i64 y.fst, Go.Proofs.Ytpahnadbknjepaa.Ex.AV.int Go.IntKind.i64 y.snd], { blks := [], c := 0 })
  else
    bif Go.Proofs.Ytpahnadbknjepaa.Ex.empB y then Option.some (Go.Proofs.Ytpahnadbknjepaa.Ex.AV.agg [Go.Proofs.Ytpahnadbknjepaa.Ex.AV.int Go.IntKind.i64 x.fst, Go.Proofs.Ytpahnadbknjepaa.Ex.AV.int Go.IntKind.i64 x.snd], { blks := [], c := 0 })
    else Option.some (Go.Proofs.Ytpahnadbknjepaa.Ex.AV.agg [Go.Proofs.Ytpahnadbknjepaa.Ex.AV.int Go.IntKind.i64 (if y.fst < x.fst then y.fst else x.fst), Go.Proofs.Ytpahnadbknjepaa.Ex.AV.int Go.IntKind.i64 (if y.snd > x.snd then y.snd else x.snd)], { blks := [], c := 0 }) := by kernel_rfl
theorem raw26J (z : I × I) : ev cx1 26 [aL2 z] =
  bif Go.Proofs.Ytpahnadbknjepaa.Ex.empB z.fst then
    bif Go.Proofs.Ytpahnadbknjepaa.Ex.empB z.snd then Option.some (Go.Proofs.Ytpahnadbknjepaa.Ex.AV.agg [Go.Proofs.Ytpahnadbknjepaa.Ex.AV.int Go.IntKind.i64 Go.Proofs.Ytpahnadbknjepaa.Ex.nn.fst, Go.Proofs.Ytpahnadbknjepaa.Ex.AV.int Go.IntKind.i64 Go.Proofs.Ytpahnadbknjepaa.Ex.nn.snd], { blks := [], c := 0 })
    else Option.some (Go.Proofs.Ytpahnadbknjepaa.Ex.AV.agg [Go.Proofs.Ytpahnadbknjepaa.Ex.AV.int Go.IntKind.i64 z.snd.fst, Go.Proofs.Ytpahnadbknjepaa.Ex.AV.int Go.IntKind.i64 z.snd.snd], { blks := [], c := 0 })
  else
    bif Go.Proofs.Ytpahnadbknjepaa.Ex.empB z.snd then Option.some (Go.Proofs.Ytpahnadbknjepaa.Ex.AV.agg [Go.Proofs.Ytpahnadbknjepaa.Ex.AV.int Go.IntKind.i64 z.fst.fst, Go.Proofs.Ytpahnadbknjepaa.Ex.AV.int Go.IntKind.i64 z.fst.snd], { blks := [], c := 0 })
    else
      bif Go.Proofs.Ytpahnadbknjepaa.Ex.empB z.fst then Option.some (Go.Proofs.Ytpahnadbknjepaa.Ex.AV.agg [Go.Proofs.Ytpahnadbknjepaa.Ex.AV.int Go.IntKind.i64 z.snd.fst, Go.Proofs.Ytpahnadbknjepaa.Ex.AV.int Go.IntKind.i64 z.snd.snd], { blks := [], c := 0 })
      else
        Option.some
          (Go.Proofs.Ytpahnadbknjepaa.Ex.AV.agg [Go.Proofs.Ytpahnadbknjepaa.Ex.AV.int Go.IntKind.i64 (if z.snd.fst < z.fst.fst then z.snd.fst else z.fst.fst), Go.Proofs.Ytpahnadbknjepaa.Ex.AV.int Go.IntKind.i64 (if z.snd.snd > z.fst.snd then z.snd.snd else z.fst.snd)],
            { blks := [], c := 0 }) := by kernel_rfl
theorem raw26N  : ev cx1 26 [.nil] =
  Option.some (Go.Proofs.Ytpahnadbknjepaa.Ex.AV.agg [Go.Proofs.Ytpahnadbknjepaa.Ex.AV.int Go.IntKind.i64 Go.Proofs.Ytpahnadbknjepaa.Ex.nn.fst, Go.Proofs.Ytpahnadbknjepaa.Ex.AV.int Go.IntKind.i64 Go.Proofs.Ytpahnadbknjepaa.Ex.nn.snd], { blks := [], c := 0 }) := by kernel_rfl
theorem raw52a (z : Int) : ev cx1 52 [aM1 z] =
  bif Decidable.decide (z < -2147483648) then Option.some (Go.Proofs.Ytpahnadbknjepaa.Ex.AV.bool Bool.false, { blks := [], c := 0 })
  else bif Decidable.decide (z > 2147483647) then Option.some (Go.Proofs.Ytpahnadbknjepaa.Ex.AV.bool Bool.false, { blks := [], c := 0 }) else Option.some (Go.Proofs.Ytpahnadbknjepaa.Ex.AV.bool Bool.true, { blks := [], c := 0 }) := by kernel_rfl
theorem raw52b (z : Int × Int) : ev cx1 52 [aM2 z] =
  bif Decidable.decide (z.fst < -2147483648) then Option.some (Go.Proofs.Ytpahnadbknjepaa.Ex.AV.bool Bool.false, { blks := [], c := 0 })
  else
    bif Decidable.decide (z.fst > 2147483647) then Option.some (Go.Proofs.Ytpahnadbknjepaa.Ex.AV.bool Bool.false, { blks := [], c := 0 })
    else
      bif Decidable.decide (z.snd < -2147483648) then Option.some (Go.Proofs.Ytpahnadbknjepaa.Ex.AV.bool Bool.false, { blks := [], c := 0 })
      else bif Decidable.decide (z.snd > 2147483647) then Option.some (Go.Proofs.Ytpahnadbknjepaa.Ex.AV.bool Bool.false, { blks := [], c := 0 }) else Option.some (Go.Proofs.Ytpahnadbknjepaa.Ex.AV.bool Bool.true, { blks := [], c := 0 }) := by kernel_rfl
theorem raw51 (l : List I) (i : Int) : ev cx1 51 [aLI l, aN i] =
  bif Decidable.decide (i ≥ (↑l.length : Int)) then Option.some (Go.Proofs.Ytpahnadbknjepaa.Ex.AV.agg [Go.Proofs.Ytpahnadbknjepaa.Ex.AV.int Go.IntKind.i64 Go.Proofs.Ytpahnadbknjepaa.Ex.nn.fst, Go.Proofs.Ytpahnadbknjepaa.Ex.AV.int Go.IntKind.i64 Go.Proofs.Ytpahnadbknjepaa.Ex.nn.snd], { blks := [], c := 0 })
  else
    bif Decidable.decide (0 ≤ i) then
      Go.Proofs.Ytpahnadbknjepaa.Ex.optC l[i.toNat]? Option.none fun d2 ↦ Option.some (Go.Proofs.Ytpahnadbknjepaa.Ex.AV.agg [Go.Proofs.Ytpahnadbknjepaa.Ex.AV.int Go.IntKind.i64 d2.fst, Go.Proofs.Ytpahnadbknjepaa.Ex.AV.int Go.IntKind.i64 d2.snd], { blks := [], c := 0 })
    else Option.none := by kernel_rfl
theorem raw40 (l : List I) (i : Int) : ev cx1 40 [aLI l, aN i] =
  bif Decidable.decide (i < (↑l.length : Int)) then
    bif Decidable.decide (0 ≤ i) then
      Go.Proofs.Ytpahnadbknjepaa.Ex.optC l[i.toNat]? Option.none fun d2 ↦ Option.some (Go.Proofs.Ytpahnadbknjepaa.Ex.AV.agg [Go.Proofs.Ytpahnadbknjepaa.Ex.AV.int Go.IntKind.i64 d2.fst, Go.Proofs.Ytpahnadbknjepaa.Ex.AV.int Go.IntKind.i64 d2.snd], { blks := [], c := 0 })
    else Option.none
  else Option.some (Go.Proofs.Ytpahnadbknjepaa.Ex.AV.agg [Go.Proofs.Ytpahnadbknjepaa.Ex.AV.int Go.IntKind.i64 Go.Proofs.Ytpahnadbknjepaa.Ex.nn.fst, Go.Proofs.Ytpahnadbknjepaa.Ex.AV.int Go.IntKind.i64 Go.Proofs.Ytpahnadbknjepaa.Ex.nn.snd], { blks := [], c := 0 }) := by kernel_rfl
theorem raw29 (a : Int) (b : Int) : ev cx1 29 [aN a, aN b] =
  Option.some (Go.Proofs.Ytpahnadbknjepaa.Ex.AV.bool (Go.Proofs.Ytpahnadbknjepaa.Ex.andV a b == a), { blks := [], c := 0 }) := by kernel_rfl
end Go.Proofs.Ytpahnadbknjepaa.Ex

/- Contracts, level 1. -/
namespace Go.Proofs.Ytpahnadbknjepaa.Ex
open Go.Proofs Go.Proofs.Ytpahnadbknjepaa
set_option maxRecDepth 100000
set_option linter.unusedSimpArgs false
set_option linter.unusedVariables false
theorem ok50 (x : I) (y : I) : ev cx1 50 [aI x, aI y] = outV (.bool (leqB x y)) := by
  rw [raw50]
  simp [outV, aI, aN, nn, leqB, rJoin, iJoin, isB, fitB, empB, mx, mn, cond_eq_ite] <;> ((repeat' split) <;> simp_all <;> omega)
theorem ok54 (x : I) (y : I) : ev cx1 54 [aI x, aI y] = outV (.bool (leqB x y)) := by
  rw [raw54]
  simp [outV, aI, aN, nn, leqB, rJoin, iJoin, isB, fitB, empB, mx, mn, cond_eq_ite] <;> ((repeat' split) <;> simp_all <;> omega)
theorem ok20 (x : I) : ev cx1 20 [aI x] = outV (.bool (isB x)) := by
  rw [raw20]
  simp [outV, aI, aN, nn, leqB, rJoin, iJoin, isB, fitB, empB, mx, mn, cond_eq_ite] <;> ((repeat' split) <;> simp_all <;> omega)
theorem ok39 (x : I) (y : I) : ev cx1 39 [aI x, aI y] = outV (aI (rJoin x y)) := by
  rw [raw39]
  simp [outV, aI, aN, nn, leqB, rJoin, iJoin, isB, fitB, empB, mx, mn, cond_eq_ite] <;> ((repeat' split) <;> simp_all <;> omega)
theorem ok26J (z : I × I) : ev cx1 26 [aL2 z] = outV (aI (iJoin z.1 z.2)) := by
  rw [raw26J]
  simp [outV, aI, aN, nn, leqB, rJoin, iJoin, isB, fitB, empB, mx, mn, cond_eq_ite] <;> ((repeat' split) <;> simp_all <;> omega)
theorem ok26N  : ev cx1 26 [.nil] = outV (aI nn) := by
  rw [raw26N]
  rfl
theorem ok52a (z : Int) : ev cx1 52 [aM1 z] = outV (.bool (fitB z)) := by
  rw [raw52a]
  simp only [fitB, outV, cond_eq_ite, decide_eq_true_eq]; (repeat' split) <;> simp <;> omega
theorem ok52b (z : Int × Int) : ev cx1 52 [aM2 z] = outV (.bool (fitB z.1 && fitB z.2)) := by
  rw [raw52b]
  simp only [fitB, outV, cond_eq_ite, decide_eq_true_eq]; (repeat' split) <;> simp <;> omega
theorem ok51 (l : List I) (i : Int) (hp : decide (0 ≤ i) = true) : ev cx1 51 [aLI l, aN i] = outV (aI (atV l i)) := by
  rw [raw51]
  have hp := of_decide_eq_true hp
  by_cases h : i ≥ ((l.length : Nat) : Int)
  · simp only [show decide (i ≥ ((l.length : Nat) : Int)) = true from decide_eq_true h, show decide (i < ((l.length : Nat) : Int)) = false from decide_eq_false (by omega), cond_true, cond_false]; unfold atV; rw [if_pos h]; rfl
  · obtain ⟨d, hd⟩ : ∃ d, l[i.toNat]? = some d := ⟨l[i.toNat]'(by omega), List.getElem?_eq_getElem _⟩
    simp only [show decide (i ≥ ((l.length : Nat) : Int)) = false from decide_eq_false h, show decide (i < ((l.length : Nat) : Int)) = true from decide_eq_true (by omega), show decide (0 ≤ i) = true from decide_eq_true hp, cond_true, cond_false, hd, optC]
    unfold atV; rw [if_neg h, hd]; rfl
theorem ok40 (l : List I) (i : Int) (hp : decide (0 ≤ i) = true) : ev cx1 40 [aLI l, aN i] = outV (aI (atV l i)) := by
  rw [raw40]
  have hp := of_decide_eq_true hp
  by_cases h : i ≥ ((l.length : Nat) : Int)
  · simp only [show decide (i ≥ ((l.length : Nat) : Int)) = true from decide_eq_true h, show decide (i < ((l.length : Nat) : Int)) = false from decide_eq_false (by omega), cond_true, cond_false]; unfold atV; rw [if_pos h]; rfl
  · obtain ⟨d, hd⟩ : ∃ d, l[i.toNat]? = some d := ⟨l[i.toNat]'(by omega), List.getElem?_eq_getElem _⟩
    simp only [show decide (i ≥ ((l.length : Nat) : Int)) = false from decide_eq_false h, show decide (i < ((l.length : Nat) : Int)) = true from decide_eq_true (by omega), show decide (0 ≤ i) = true from decide_eq_true hp, cond_true, cond_false, hd, optC]
    unfold atV; rw [if_neg h, hd]; rfl
theorem ok29 (a : Int) (b : Int) : ev cx1 29 [aN a, aN b] = outV (.bool (andV a b == a)) := by
  rw [raw29]
  rfl
def M50 : List AV → Option (Bool × AV × List Blk)
  | [v_x, v_y] => (gI v_x).bind fun x => (gI v_y).bind fun y => some (true, .bool (leqB x y), [])
  | _ => none
theorem hM50 (args : List AV) (v : AV) (bs : List Blk) (h : M50 args = some (true, v, bs)) : AV.idsL args = [] ∧ (true = true ∨ (plainV v = true ∧ bs.all plainB = true)) ∧ ∃ fb, ex ((evF cx1 keeps 3 50 args).bind (finP true)) false ⟨[], 0⟩ ⟨[], []⟩ = some (v, ⟨enumB 0 bs, bs.length⟩, fb) := by
  unfold M50 at h
  split at h
  · obtain ⟨x, h_x, h0⟩ := Option.bind_eq_some_iff.1 h
    obtain ⟨y, h_y, h1⟩ := Option.bind_eq_some_iff.1 h0
    simp only [Option.some.injEq, Prod.mk.injEq] at h1
    obtain ⟨_, rfl, rfl⟩ := h1
    have e_x := gI_some h_x
    have e_y := gI_some h_y
    subst e_x e_y
    exact ⟨rfl, .inl rfl, ev_ex (ok50 x y)⟩
  · cases h
theorem snd50 : SoundA Try.prog 50 (specP true M50) := soundA_spec (fz := true) (cal1 50) hM50
def M54 : List AV → Option (Bool × AV × List Blk)
  | [v_x, v_y] => (gI v_x).bind fun x => (gI v_y).bind fun y => some (true, .bool (leqB x y), [])
  | _ => none
theorem hM54 (args : List AV) (v : AV) (bs : List Blk) (h : M54 args = some (true, v, bs)) : AV.idsL args = [] ∧ (true = true ∨ (plainV v = true ∧ bs.all plainB = true)) ∧ ∃ fb, ex ((evF cx1 keeps 3 54 args).bind (finP true)) false ⟨[], 0⟩ ⟨[], []⟩ = some (v, ⟨enumB 0 bs, bs.length⟩, fb) := by
  unfold M54 at h
  split at h
  · obtain ⟨x, h_x, h0⟩ := Option.bind_eq_some_iff.1 h
    obtain ⟨y, h_y, h1⟩ := Option.bind_eq_some_iff.1 h0
    simp only [Option.some.injEq, Prod.mk.injEq] at h1
    obtain ⟨_, rfl, rfl⟩ := h1
    have e_x := gI_some h_x
    have e_y := gI_some h_y
    subst e_x e_y
    exact ⟨rfl, .inl rfl, ev_ex (ok54 x y)⟩
  · cases h
theorem snd54 : SoundA Try.prog 54 (specP true M54) := soundA_spec (fz := true) (cal1 54) hM54
def M20 : List AV → Option (Bool × AV × List Blk)
  | [v_x] => (gI v_x).bind fun x => some (true, .bool (isB x), [])
  | _ => none
theorem hM20 (args : List AV) (v : AV) (bs : List Blk) (h : M20 args = some (true, v, bs)) : AV.idsL args = [] ∧ (true = true ∨ (plainV v = true ∧ bs.all plainB = true)) ∧ ∃ fb, ex ((evF cx1 keeps 3 20 args).bind (finP true)) false ⟨[], 0⟩ ⟨[], []⟩ = some (v, ⟨enumB 0 bs, bs.length⟩, fb) := by
  unfold M20 at h
  split at h
  · obtain ⟨x, h_x, h0⟩ := Option.bind_eq_some_iff.1 h
    simp only [Option.some.injEq, Prod.mk.injEq] at h0
    obtain ⟨_, rfl, rfl⟩ := h0
    have e_x := gI_some h_x
    subst e_x
    exact ⟨rfl, .inl rfl, ev_ex (ok20 x)⟩
  · cases h
theorem snd20 : SoundA Try.prog 20 (specP true M20) := soundA_spec (fz := true) (cal1 20) hM20
def M39 : List AV → Option (Bool × AV × List Blk)
  | [v_x, v_y] => (gI v_x).bind fun x => (gI v_y).bind fun y => some (true, aI (rJoin x y), [])
  | _ => none
theorem hM39 (args : List AV) (v : AV) (bs : List Blk) (h : M39 args = some (true, v, bs)) : AV.idsL args = [] ∧ (true = true ∨ (plainV v = true ∧ bs.all plainB = true)) ∧ ∃ fb, ex ((evF cx1 keeps 3 39 args).bind (finP true)) false ⟨[], 0⟩ ⟨[], []⟩ = some (v, ⟨enumB 0 bs, bs.length⟩, fb) := by
  unfold M39 at h
  split at h
  · obtain ⟨x, h_x, h0⟩ := Option.bind_eq_some_iff.1 h
    obtain ⟨y, h_y, h1⟩ := Option.bind_eq_some_iff.1 h0
    simp only [Option.some.injEq, Prod.mk.injEq] at h1
    obtain ⟨_, rfl, rfl⟩ := h1
    have e_x := gI_some h_x
    have e_y := gI_some h_y
    subst e_x e_y
    exact ⟨rfl, .inl rfl, ev_ex (ok39 x y)⟩
  · cases h
theorem snd39 : SoundA Try.prog 39 (specP true M39) := soundA_spec (fz := true) (cal1 39) hM39
def M26J : List AV → Option (Bool × AV × List Blk)
  | [v_z] => (gL2 v_z).bind fun z => some (true, aI (iJoin z.1 z.2), [])
  | _ => none
theorem hM26J (args : List AV) (v : AV) (bs : List Blk) (h : M26J args = some (true, v, bs)) : AV.idsL args = [] ∧ (true = true ∨ (plainV v = true ∧ bs.all plainB = true)) ∧ ∃ fb, ex ((evF cx1 keeps 3 26 args).bind (finP true)) false ⟨[], 0⟩ ⟨[], []⟩ = some (v, ⟨enumB 0 bs, bs.length⟩, fb) := by
  unfold M26J at h
  split at h
  · obtain ⟨z, h_z, h0⟩ := Option.bind_eq_some_iff.1 h
    simp only [Option.some.injEq, Prod.mk.injEq] at h0
    obtain ⟨_, rfl, rfl⟩ := h0
    have e_z := gL2_some h_z
    subst e_z
    exact ⟨rfl, .inl rfl, ev_ex (ok26J z)⟩
  · cases h
def M26N : List AV → Option (Bool × AV × List Blk)
  | [.nil] => some (true, aI nn, [])
  | _ => none
theorem hM26N (args : List AV) (v : AV) (bs : List Blk) (h : M26N args = some (true, v, bs)) : AV.idsL args = [] ∧ (true = true ∨ (plainV v = true ∧ bs.all plainB = true)) ∧ ∃ fb, ex ((evF cx1 keeps 3 26 args).bind (finP true)) false ⟨[], 0⟩ ⟨[], []⟩ = some (v, ⟨enumB 0 bs, bs.length⟩, fb) := by
  unfold M26N at h
  split at h
  · have h0 := h
    have h0 : (true, _, _) = (true, v, bs) := Option.some.inj h0
    simp only [Prod.mk.injEq] at h0
    obtain ⟨_, rfl, rfl⟩ := h0
    exact ⟨rfl, .inl rfl, ev_ex (ok26N )⟩
  · cases h
def M26 (l : List AV) : Option (Bool × AV × List Blk) := match M26J l with
    | some r => some r
    | none => M26N l
theorem hM26 (args : List AV) (v : AV) (bs : List Blk) (h : M26 args = some (true, v, bs)) : AV.idsL args = [] ∧ (true = true ∨ (plainV v = true ∧ bs.all plainB = true)) ∧ ∃ fb, ex ((evF cx1 keeps 3 26 args).bind (finP true)) false ⟨[], 0⟩ ⟨[], []⟩ = some (v, ⟨enumB 0 bs, bs.length⟩, fb) := by
  unfold M26 at h
  split at h
  · rename_i hr; cases h; exact hM26J _ _ _ hr
  · exact hM26N _ _ _ h
theorem snd26 : SoundA Try.prog 26 (specP true M26) := soundA_spec (fz := true) (cal1 26) hM26
def M52a : List AV → Option (Bool × AV × List Blk)
  | [v_z] => (gM1 v_z).bind fun z => some (true, .bool (fitB z), [])
  | _ => none
theorem hM52a (args : List AV) (v : AV) (bs : List Blk) (h : M52a args = some (true, v, bs)) : AV.idsL args = [] ∧ (true = true ∨ (plainV v = true ∧ bs.all plainB = true)) ∧ ∃ fb, ex ((evF cx1 keeps 3 52 args).bind (finP true)) false ⟨[], 0⟩ ⟨[], []⟩ = some (v, ⟨enumB 0 bs, bs.length⟩, fb) := by
  unfold M52a at h
  split at h
  · obtain ⟨z, h_z, h0⟩ := Option.bind_eq_some_iff.1 h
    simp only [Option.some.injEq, Prod.mk.injEq] at h0
    obtain ⟨_, rfl, rfl⟩ := h0
    have e_z := gM1_some h_z
    subst e_z
    exact ⟨rfl, .inl rfl, ev_ex (ok52a z)⟩
  · cases h
def M52b : List AV → Option (Bool × AV × List Blk)
  | [v_z] => (gM2 v_z).bind fun z => some (true, .bool (fitB z.1 && fitB z.2), [])
  | _ => none
theorem hM52b (args : List AV) (v : AV) (bs : List Blk) (h : M52b args = some (true, v, bs)) : AV.idsL args = [] ∧ (true = true ∨ (plainV v = true ∧ bs.all plainB = true)) ∧ ∃ fb, ex ((evF cx1 keeps 3 52 args).bind (finP true)) false ⟨[], 0⟩ ⟨[], []⟩ = some (v, ⟨enumB 0 bs, bs.length⟩, fb) := by
  unfold M52b at h
  split at h
  · obtain ⟨z, h_z, h0⟩ := Option.bind_eq_some_iff.1 h
    simp only [Option.some.injEq, Prod.mk.injEq] at h0
    obtain ⟨_, rfl, rfl⟩ := h0
    have e_z := gM2_some h_z
    subst e_z
    exact ⟨rfl, .inl rfl, ev_ex (ok52b z)⟩
  · cases h
def M52 (l : List AV) : Option (Bool × AV × List Blk) := match M52a l with
    | some r => some r
    | none => M52b l
theorem hM52 (args : List AV) (v : AV) (bs : List Blk) (h : M52 args = some (true, v, bs)) : AV.idsL args = [] ∧ (true = true ∨ (plainV v = true ∧ bs.all plainB = true)) ∧ ∃ fb, ex ((evF cx1 keeps 3 52 args).bind (finP true)) false ⟨[], 0⟩ ⟨[], []⟩ = some (v, ⟨enumB 0 bs, bs.length⟩, fb) := by
  unfold M52 at h
  split at h
  · rename_i hr; cases h; exact hM52a _ _ _ hr
  · exact hM52b _ _ _ h
theorem snd52 : SoundA Try.prog 52 (specP true M52) := soundA_spec (fz := true) (cal1 52) hM52
def M51 : List AV → Option (Bool × AV × List Blk)
  | [v_l, v_i] => (gLI v_l).bind fun l => (gN v_i).bind fun i => some (decide (0 ≤ i), aI (atV l i), [])
  | _ => none
theorem hM51 (args : List AV) (v : AV) (bs : List Blk) (h : M51 args = some (true, v, bs)) : AV.idsL args = [] ∧ (true = true ∨ (plainV v = true ∧ bs.all plainB = true)) ∧ ∃ fb, ex ((evF cx1 keeps 3 51 args).bind (finP true)) false ⟨[], 0⟩ ⟨[], []⟩ = some (v, ⟨enumB 0 bs, bs.length⟩, fb) := by
  unfold M51 at h
  split at h
  · obtain ⟨l, h_l, h0⟩ := Option.bind_eq_some_iff.1 h
    obtain ⟨i, h_i, h1⟩ := Option.bind_eq_some_iff.1 h0
    simp only [Option.some.injEq, Prod.mk.injEq] at h1
    obtain ⟨hp, rfl, rfl⟩ := h1
    have e_l := gLI_some h_l
    have e_i := gN_some h_i
    subst e_l e_i
    exact ⟨rfl, .inl rfl, ev_ex (ok51 l i hp)⟩
  · cases h
theorem snd51 : SoundA Try.prog 51 (specP true M51) := soundA_spec (fz := true) (cal1 51) hM51
def M40 : List AV → Option (Bool × AV × List Blk)
  | [v_l, v_i] => (gLI v_l).bind fun l => (gN v_i).bind fun i => some (decide (0 ≤ i), aI (atV l i), [])
  | _ => none
theorem hM40 (args : List AV) (v : AV) (bs : List Blk) (h : M40 args = some (true, v, bs)) : AV.idsL args = [] ∧ (true = true ∨ (plainV v = true ∧ bs.all plainB = true)) ∧ ∃ fb, ex ((evF cx1 keeps 3 40 args).bind (finP true)) false ⟨[], 0⟩ ⟨[], []⟩ = some (v, ⟨enumB 0 bs, bs.length⟩, fb) := by
  unfold M40 at h
  split at h
  · obtain ⟨l, h_l, h0⟩ := Option.bind_eq_some_iff.1 h
    obtain ⟨i, h_i, h1⟩ := Option.bind_eq_some_iff.1 h0
    simp only [Option.some.injEq, Prod.mk.injEq] at h1
    obtain ⟨hp, rfl, rfl⟩ := h1
    have e_l := gLI_some h_l
    have e_i := gN_some h_i
    subst e_l e_i
    exact ⟨rfl, .inl rfl, ev_ex (ok40 l i hp)⟩
  · cases h
theorem snd40 : SoundA Try.prog 40 (specP true M40) := soundA_spec (fz := true) (cal1 40) hM40
def M29 : List AV → Option (Bool × AV × List Blk)
  | [v_a, v_b] => (gN v_a).bind fun a => (gN v_b).bind fun b => some (true, .bool (andV a b == a), [])
  | _ => none
theorem hM29 (args : List AV) (v : AV) (bs : List Blk) (h : M29 args = some (true, v, bs)) : AV.idsL args = [] ∧ (true = true ∨ (plainV v = true ∧ bs.all plainB = true)) ∧ ∃ fb, ex ((evF cx1 keeps 3 29 args).bind (finP true)) false ⟨[], 0⟩ ⟨[], []⟩ = some (v, ⟨enumB 0 bs, bs.length⟩, fb) := by
  unfold M29 at h
  split at h
  · obtain ⟨a, h_a, h0⟩ := Option.bind_eq_some_iff.1 h
    obtain ⟨b, h_b, h1⟩ := Option.bind_eq_some_iff.1 h0
    simp only [Option.some.injEq, Prod.mk.injEq] at h1
    obtain ⟨_, rfl, rfl⟩ := h1
    have e_a := gN_some h_a
    have e_b := gN_some h_b
    subst e_a e_b
    exact ⟨rfl, .inl rfl, ev_ex (ok29 a b)⟩
  · cases h
theorem snd29 : SoundA Try.prog 29 (specP true M29) := soundA_spec (fz := true) (cal1 29) hM29
end Go.Proofs.Ytpahnadbknjepaa.Ex

