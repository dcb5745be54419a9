/- A part of the proofs of the laws of tables: XF. -/
import Derived.Test.YtoldjnhbgbhgpaaXD
import Derived.Test.YtoldjnhbgbhgpaaRows
/- The program of a seat, for the executor. -/
namespace Go.Proofs.Ytoldjnhbgbhgpaa.Ex
open Go.Proofs Go.Proofs.Ytoldjnhbgbhgpaa
instance rt0 : RT where
  C := fun _ => Bool
  body := fun _ => .bool
  unf := fun _ x => x
  fld := fun _ x => x
  uf := fun _ _ => rfl
  fu := fun _ _ => rfl
def tab : List (TypeId × TInfo) := [
  (3, ⟨(.int .i64), 8, 0, [], false⟩),
  (4, ⟨.bool, 1, 0, [], false⟩),
  (22, ⟨(.st (.pair (.int .i64) (.int .i64))), 16, 0, [(0, 1), (1, 1)], true⟩),
  (23, ⟨(.st (.pair (.int .i64) (.int .i64))), 16, 0, [(0, 1), (1, 1)], true⟩),
  (24, ⟨(.st (.pair (.int .i64) (.pair .bool (.pair (.int .i64) (.pair (.int .i64) (.st (.pair (.int .i64) (.int .i64)))))))), 48, 0, [(0, 1), (1, 1), (2, 1), (3, 1), (4, 2)], true⟩),
  (25, ⟨(.st (.pair (.int .i64) (.pair .bool (.pair (.int .i64) (.pair (.int .i64) (.st (.pair (.int .i64) (.int .i64)))))))), 48, 0, [(0, 1), (1, 1), (2, 1), (3, 1), (4, 2)], true⟩),
  (28, ⟨(.sl (.st (.pair (.int .i64) (.pair .bool (.pair (.int .i64) (.pair (.int .i64) (.st (.pair (.int .i64) (.int .i64))))))))), 24, 25, [], false⟩),
  (41, ⟨(.sl (.int .i64)), 24, 3, [], false⟩),
  (43, ⟨(.sl (.st (.pair (.int .i64) (.int .i64)))), 24, 23, [], false⟩),
  (52, ⟨(.int .u64), 8, 0, [], false⟩)]
def keeps : Nat → List Nat
  | 3 => [0, 5, 4, 39, 1, 2, 3, 12, 70, 11, 10]
  | 4 => [0, 1, 2]
  | 5 => [0, 1, 2]
  | 6 => [0, 1, 2, 3, 4, 10]
  | 7 => [1, 0]
  | 8 => [0]
  | 9 => [0, 2]
  | 10 => [0, 19, 18, 20, 17, 15, 1, 2, 3, 4, 5, 49, 13, 12]
  | 11 => [0, 2]
  | 12 => [0, 1, 12, 11, 13, 10, 5, 7, 4]
  | 13 => [0]
  | 14 => [0, 1, 4]
  | 15 => [0, 9, 8, 10, 7, 5, 24, 3, 27, 2]
  | 16 => [0, 4, 2]
  | 17 => [1, 4, 11, 0, 8, 20, 7, 2, 6]
  | 18 => [0, 1, 2, 3, 4]
  | 19 => [5, 6, 0, 4, 10, 3, 2]
  | 20 => [0, 1, 2]
  | 21 => [1, 0, 3, 4, 5]
  | 22 => [0, 1, 2, 7, 16, 8, 22, 31, 9, 68, 6]
  | 23 => [0, 1, 4]
  | 24 => [1, 0, 8, 9, 10, 17, 2, 11, 4, 31, 6, 7]
  | 25 => [0, 1, 2, 3, 4]
  | 27 => [0, 1]
  | 28 => [0, 8, 7, 9, 6, 5, 17, 3, 2]
  | 29 => [0, 8, 7, 9, 6, 5, 3, 14, 2]
  | 30 => [0, 1, 5, 11, 6, 12, 13, 16, 19, 4]
  | 31 => [0, 3, 2]
  | 32 => [0, 1]
  | 33 => [0, 2]
  | 34 => [0, 2, 3, 9]
  | _ => []
noncomputable def inl : Nat → Option Func
  | 3 => some Try.f3
  | 4 => some Try.f4
  | 5 => some Try.f5
  | 6 => some Try.f6
  | 7 => some Try.f7
  | 8 => some Try.f8
  | 9 => some Try.f9
  | 10 => some Try.f10
  | 11 => some Try.f11
  | 12 => some Try.f12
  | 13 => some Try.f13
  | 14 => some Try.f14
  | 15 => some Try.f15
  | 16 => some Try.f16
  | 17 => some Try.f17
  | 18 => some Try.f18
  | 19 => some Try.f19
  | 20 => some Try.f20
  | 21 => some Try.f21
  | 22 => some Try.f22
  | 23 => some Try.f23
  | 24 => some Try.f24
  | 25 => some Try.f25
  | 27 => some Try.f27
  | 28 => some Try.f28
  | 29 => some Try.f29
  | 30 => some Try.f30
  | 31 => some Try.f31
  | 32 => some Try.f32
  | 33 => some Try.f33
  | 34 => some Try.f34
  | _ => none
theorem tab_ok : tabB Try.prog tab = true := by kernel_rfl
theorem cmps_ok : cmpsB Try.prog tab = true := by kernel_rfl
theorem mixed : Try.prog.follows .mixedOrders = true := by kernel_rfl
theorem inl_ok : ∀ g fn, inl g = some fn → Try.prog.funcs[g]? = some fn ∧ (fn.name == "runtime.NumGoroutine") = false := by
  intro g fn h
  unfold inl at h
  split at h
  · cases h; exact ⟨Try.func3, by kernel_rfl⟩
  · cases h; exact ⟨Try.func4, by kernel_rfl⟩
  · cases h; exact ⟨Try.func5, by kernel_rfl⟩
  · cases h; exact ⟨Try.func6, by kernel_rfl⟩
  · cases h; exact ⟨Try.func7, by kernel_rfl⟩
  · cases h; exact ⟨Try.func8, by kernel_rfl⟩
  · cases h; exact ⟨Try.func9, by kernel_rfl⟩
  · cases h; exact ⟨Try.func10, by kernel_rfl⟩
  · cases h; exact ⟨Try.func11, by kernel_rfl⟩
  · cases h; exact ⟨Try.func12, by kernel_rfl⟩
  · cases h; exact ⟨Try.func13, by kernel_rfl⟩
  · cases h; exact ⟨Try.func14, by kernel_rfl⟩
  · cases h; exact ⟨Try.func15, by kernel_rfl⟩
  · cases h; exact ⟨Try.func16, by kernel_rfl⟩
  · cases h; exact ⟨Try.func17, by kernel_rfl⟩
  · cases h; exact ⟨Try.func18, by kernel_rfl⟩
  · cases h; exact ⟨Try.func19, by kernel_rfl⟩
  · cases h; exact ⟨Try.func20, by kernel_rfl⟩
  · cases h; exact ⟨Try.func21, by kernel_rfl⟩
  · cases h; exact ⟨Try.func22, by kernel_rfl⟩
  · cases h; exact ⟨Try.func23, by kernel_rfl⟩
  · cases h; exact ⟨Try.func24, by kernel_rfl⟩
  · cases h; exact ⟨Try.func25, by kernel_rfl⟩
  · cases h; exact ⟨Try.func27, by kernel_rfl⟩
  · cases h; exact ⟨Try.func28, by kernel_rfl⟩
  · cases h; exact ⟨Try.func29, by kernel_rfl⟩
  · cases h; exact ⟨Try.func30, by kernel_rfl⟩
  · cases h; exact ⟨Try.func31, by kernel_rfl⟩
  · cases h; exact ⟨Try.func32, by kernel_rfl⟩
  · cases h; exact ⟨Try.func33, by kernel_rfl⟩
  · cases h; exact ⟨Try.func34, by kernel_rfl⟩
  · cases h
end Go.Proofs.Ytoldjnhbgbhgpaa.Ex

/- What is asked of environments. -/
namespace Go.Proofs.Ytoldjnhbgbhgpaa.Ex
abbrev I := Int × Int
def aI (x : I) : AV := .agg [.int .i64 x.1, .int .i64 x.2]
def aN (n : Int) : AV := .int .i64 n
def gI : AV → Option I
  | .agg [.int .i64 a, .int .i64 b] => some (a, b)
  | _ => none
def gN : AV → Option Int
  | .int .i64 n => some n
  | _ => none
theorem gI_some {v : AV} {x : I} (e : gI v = some x) : v = aI x := by
  unfold gI at e
  split at e
  · cases e; rfl
  · cases e
theorem gN_some {v : AV} {n : Int} (e : gN v = some n) : v = aN n := by
  unfold gN at e
  split at e
  · cases e; rfl
  · cases e
def tI : Ty := .st (.pair (.int .i64) (.int .i64))
def retV (v : AV) : Option (Bool × AV × List Blk) := some (true, v, [])
noncomputable def ev (cx : Ctx) (g : FuncId) (args : List AV) : Option (AV × Hp) := run ((evF cx keeps 3 g args).bind (finP true)) false ⟨[], 0⟩ ⟨[], []⟩ fun v h _ => some (v, h)
def outV (v : AV) : Option (AV × Hp) := some (v, ⟨[], 0⟩)
theorem ev_ex {cx : Ctx} {g : FuncId} {args : List AV} {v : AV} (e : ev cx g args = outV v) : ∃ fb, ex ((evF cx keeps 3 g args).bind (finP true)) false ⟨[], 0⟩ ⟨[], []⟩ = some (v, ⟨enumB 0 [], List.length ([] : List Blk)⟩, fb) := by
  unfold ev at e
  rw [run_ex] at e
  obtain ⟨⟨v', h', f'⟩, h1, h2⟩ := Option.bind_eq_some_iff.1 e
  cases h2
  exact ⟨f', h1⟩
def nn : I := (1, 0)
def aa : I := (-2147483648, 2147483647)
def empB (x : I) : Bool := decide (x.1 > x.2)
def fitB (n : Int) : Bool := decide (n ≥ -2147483648) && decide (n ≤ 2147483647)
def isB (x : I) : Bool := (x.1 == 1 && x.2 == 0) || (decide (x.1 ≤ x.2) && (fitB x.1 && fitB x.2))
def leqB (x y : I) : Bool := empB x || (decide (x.1 ≥ y.1) && decide (x.2 ≤ y.2))
def hasB (x : I) (n : Int) : Bool := decide (n ≥ x.1) && decide (n ≤ x.2)
def mn (a b : Int) : Int := if b < a then b else a
def mx (a b : Int) : Int := if b > a then b else a
def iMeet (x y : I) : I := if empB x then nn else if empB y then nn else if empB (mx x.1 y.1, mn x.2 y.2) then nn else (mx x.1 y.1, mn x.2 y.2)
def iJoin (x y : I) : I := if empB x then (if empB y then nn else y) else if empB y then x else (mn x.1 y.1, mx x.2 y.2)
def rJoin (x y : I) : I := if empB x then y else if empB y then x else (mn x.1 y.1, mx x.2 y.2)
def iSpan (a b : Int) : I := if a > b then nn else (a, b)
def gL2 : AV → Option (I × I)
  | .sl (.st (.pair (.int .i64) (.int .i64))) l => match l with
    | [a, b] => some (show I × I from (a, b))
    | _ => none
  | _ => none
def aL2 (x : I × I) : AV := .sl tI [x.1, x.2]
theorem gL2_some {v : AV} {x : I × I} (e : gL2 v = some x) : v = aL2 x := by
  unfold gL2 at e
  split at e
  · split at e
    · cases e; rfl
    · cases e
  · cases e
def gM1 : AV → Option Int
  | .sl (.int .i64) l => match l with
    | [a] => some (show Int from a)
    | _ => none
  | _ => none
def aM1 (x : Int) : AV := .sl (.int .i64) [x]
theorem gM1_some {v : AV} {x : Int} (e : gM1 v = some x) : v = aM1 x := by
  unfold gM1 at e
  split at e
  · split at e
    · cases e; rfl
    · cases e
  · cases e
def gM2 : AV → Option (Int × Int)
  | .sl (.int .i64) l => match l with
    | [a, b] => some (show Int × Int from (a, b))
    | _ => none
  | _ => none
def aM2 (x : Int × Int) : AV := .sl (.int .i64) [x.1, x.2]
theorem gM2_some {v : AV} {x : Int × Int} (e : gM2 v = some x) : v = aM2 x := by
  unfold gM2 at e
  split at e
  · split at e
    · cases e; rfl
    · cases e
  · cases e
def gB : AV → Option Bool
  | .bool b => some b
  | _ => none
theorem gB_some {v : AV} {x : Bool} (e : gB v = some x) : v = .bool x := by
  unfold gB at e
  split at e
  · cases e; rfl
  · cases e
theorem wrap_id {n : Int} (h : -9223372036854775808 ≤ n) (h' : n ≤ 9223372036854775807) : IntKind.i64.wrap n = n := by
  have : IntKind.i64.wrap n = (n + 9223372036854775808) % 18446744073709551616 - 9223372036854775808 := by
    simp [IntKind.wrap, IntKind.signed, IntKind.bits]
    split <;> omega
  rw [this]; omega
theorem wr {n : Int} (h : n.natAbs ≤ 4611686018427387904) : IntKind.i64.wrap n = n := wrap_id (by omega) (by omega)
theorem mul_abs {a b : Int} (ha : a.natAbs ≤ 2147483648) (hb : b.natAbs ≤ 2147483648) : (a * b).natAbs ≤ 4611686018427387904 := by
  rw [Int.natAbs_mul]
  exact Nat.mul_le_mul ha hb
theorem div_abs {a b : Int} {n : Nat} (ha : a.natAbs ≤ n) : (a.tdiv b).natAbs ≤ n := by
  rw [Int.natAbs_tdiv]
  exact Nat.le_trans (Nat.div_le_self _ _) ha
theorem mod_abs {a b : Int} {n : Nat} (ha : a.natAbs ≤ n) : (a.tmod b).natAbs ≤ n := by
  rw [Int.natAbs_tmod]
  exact Nat.le_trans (Nat.mod_le _ _) ha
theorem mod_lt {a b : Int} (hb : b ≠ 0) : (a.tmod b).natAbs < b.natAbs := by
  rw [Int.natAbs_tmod]
  exact Nat.mod_lt _ (by omega)
theorem fit_abs {a : Int} (h : fitB a = true) : a.natAbs ≤ 2147483648 := by
  simp only [fitB, Bool.and_eq_true, decide_eq_true_eq] at h; omega
theorem isB_abs {x : I} (h : isB x = true) : x.1.natAbs ≤ 2147483648 ∧ x.2.natAbs ≤ 2147483648 := by
  simp only [isB, fitB, Bool.and_eq_true, Bool.or_eq_true, decide_eq_true_eq, beq_iff_eq] at h; omega
theorem mn_def (a b : Int) : (if b < a then b else a) = mn a b := rfl
theorem mx_def (a b : Int) : (if b > a then b else a) = mx a b := rfl
def mul4 (x y : I) : I := (mn (mn (mn (x.1 * y.1) (x.1 * y.2)) (x.2 * y.1)) (x.2 * y.2), mx (mx (mx (x.1 * y.1) (x.1 * y.2)) (x.2 * y.1)) (x.2 * y.2))
def div4 (x y : I) : I := (mn (mn (mn (x.1.tdiv y.1) (x.1.tdiv y.2)) (x.2.tdiv y.1)) (x.2.tdiv y.2), mx (mx (mx (x.1.tdiv y.1) (x.1.tdiv y.2)) (x.2.tdiv y.1)) (x.2.tdiv y.2))
def pickV (x : I) (n : Int) : Int := x.1 + ((n.tmod (x.2 - x.1 + 1)) + (x.2 - x.1 + 1)).tmod (x.2 - x.1 + 1)
def noZ (y : I) : Bool := !(y.1 == 0) && !(y.2 == 0)
def doR (op a b : Int) : Int × Int :=
  if !fitB a || !fitB b || decide (op < 1) || decide (op > 5) then (0, 1) else if decide (op ≥ 4) && b == 0 then (0, 8) else
  let n := if op = 1 then a + b else if op = 2 then a - b else if op = 3 then a * b else if op = 4 then a.tdiv b else a.tmod b
  if fitB n then (n, 0) else (0, 7)
def relR (r a b : Int) : Bool := if r = 1 then decide (a < b) else if r = 2 then decide (a ≤ b) else if r = 3 then a == b else if r = 4 then a != b else if r = 5 then decide (a ≥ b) else if r = 6 then decide (a > b) else false
def wout (x y : I) : I := if y.1 = y.2 then (if x.1 = y.1 then (x.1 + 1, x.2) else if x.2 = y.1 then (x.1, x.2 - 1) else x) else x
def remI (x y : I) : I := if y.1 = 0 ∧ y.2 = 0 then nn else
  let m := mx (mx (mx y.2 (-y.2)) y.1) (-y.1) - 1
  (if x.1 < 0 then mx x.1 (-m) else 0, if x.2 > 0 then mn x.2 m else 0)
def aLi (l : List Int) : AV := .sl (.int .i64) l
def gLi : AV → Option (List Int)
  | .sl (.int .i64) l => some l
  | _ => none
theorem gLi_some {v : AV} {x : List Int} (e : gLi v = some x) : v = aLi x := by
  unfold gLi at e
  split at e
  · cases e; rfl
  · cases e
def aLI (l : List I) : AV := .sl tI l
def gLI : AV → Option (List I)
  | .sl (.st (.pair (.int .i64) (.int .i64))) l => some l
  | _ => none
theorem gLI_some {v : AV} {x : List I} (e : gLI v = some x) : v = aLI x := by
  unfold gLI at e
  split at e
  · cases e; rfl
  · cases e
def okLen (l : List Int) : Bool := decide ((l.length : Int) ≤ 4611686018427387904)

noncomputable def evU (un : List (Nat × Ty)) (cx : Ctx) (g : FuncId) (args : List AV) : Option (AV × Hp) := run (((fun args => (evF cx keeps 3 g args).bind fun v => .ret (unnil un v)) args).bind (finP true)) false ⟨[], 0⟩ ⟨[], []⟩ fun v h _ => some (v, h)
theorem evU_ex {un : List (Nat × Ty)} {cx : Ctx} {g : FuncId} {args : List AV} {v : AV} (e : evU un cx g args = outV v) : ∃ fb, ex (((fun args => (evF cx keeps 3 g args).bind fun v => .ret (unnil un v)) args).bind (finP true)) false ⟨[], 0⟩ ⟨[], []⟩ = some (v, ⟨enumB 0 [], List.length ([] : List Blk)⟩, fb) := by
  unfold evU at e
  rw [run_ex] at e
  obtain ⟨⟨v1, h1, f1⟩, e1, e2⟩ := Option.bind_eq_some_iff.1 e
  cases e2
  exact ⟨f1, e1⟩
def unE : List (Nat × Ty) := [(1, tI), (2, tI), (3, tI)]
abbrev E := Bool × List I × List I × List I × Int × Int
def tE : Ty := .st (.pair .bool (.pair (.sl tI) (.pair (.sl tI) (.pair (.sl tI) (.pair (.int .i64) (.int .i64))))))
def aE (e : E) : AV := .agg [.bool e.1, .sl tI e.2.1, .sl tI e.2.2.1, .sl tI e.2.2.2.1, .int .i64 e.2.2.2.2.1, .int .i64 e.2.2.2.2.2]
def gE : AV → Option E
  | .agg [.bool b, .sl (.st (.pair (.int .i64) (.int .i64))) v, .sl (.st (.pair (.int .i64) (.int .i64))) g, .sl (.st (.pair (.int .i64) (.int .i64))) a, .int .i64 m, .int .i64 y] => some (b, v, g, a, m, y)
  | _ => none
theorem gE_some {v : AV} {x : E} (e : gE v = some x) : v = aE x := by
  unfold gE at e
  split at e
  · cases e; rfl
  · cases e
def aLE (l : List E) : AV := .sl tE l
def gLE : AV → Option (List E)
  | .sl (.st (.pair .bool (.pair (.sl (.st (.pair (.int .i64) (.int .i64)))) (.pair (.sl (.st (.pair (.int .i64) (.int .i64)))) (.pair (.sl (.st (.pair (.int .i64) (.int .i64)))) (.pair (.int .i64) (.int .i64))))))) l => some l
  | _ => none
theorem gLE_some {v : AV} {x : List E} (e : gLE v = some x) : v = aLE x := by
  unfold gLE at e
  split at e
  · cases e; rfl
  · cases e
noncomputable def bodyX (g b : Nat) : Code := ((inl g).bind (·.body)).elim .skip (lpx · b)
def atV (l : List I) (i : Int) : I := if i ≥ (l.length : Nat) then nn else (l[i.toNat]?).getD nn
def andV (a b : Int) : Int := IntKind.i64.wrap (BitVec.ofInt IntKind.i64.bits a &&& BitVec.ofInt IntKind.i64.bits b).toNat
theorem ofInt_wrap (x : BitVec 64) : BitVec.ofInt 64 (IntKind.i64.wrap (x.toNat : Int)) = x := by
  have h : IntKind.i64.wrap (x.toNat : Int) = ((x.toNat : Int) + 9223372036854775808) % 18446744073709551616 - 9223372036854775808 := by
    simp [IntKind.wrap, IntKind.signed, IntKind.bits]
    split <;> omega
  rw [h]
  apply BitVec.eq_of_toNat_eq
  rw [BitVec.toNat_ofInt]
  have := x.isLt
  omega
theorem ofInt_or (a : Int) : BitVec.ofInt IntKind.i64.bits (IntKind.i64.wrap ((BitVec.ofInt IntKind.i64.bits 0 ||| BitVec.ofInt IntKind.i64.bits a).toNat : Int)) = BitVec.ofInt IntKind.i64.bits a := by
  have e : (BitVec.ofInt IntKind.i64.bits 0 ||| BitVec.ofInt IntKind.i64.bits a) = BitVec.ofInt IntKind.i64.bits a := by
    have z : BitVec.ofInt IntKind.i64.bits 0 = 0#64 := rfl
    rw [z]; exact BitVec.zero_or
  rw [e]; exact ofInt_wrap _
def orV (a b : Int) : Int := IntKind.i64.wrap (BitVec.ofInt IntKind.i64.bits a ||| BitVec.ofInt IntKind.i64.bits b).toNat
end Go.Proofs.Ytoldjnhbgbhgpaa.Ex

/- Contracts, level 0. -/
namespace Go.Proofs.Ytoldjnhbgbhgpaa.Ex
open Go.Proofs Go.Proofs.Ytoldjnhbgbhgpaa
set_option maxRecDepth 100000
set_option linter.unusedSimpArgs false
set_option linter.unusedVariables false
def bitV (m : Int) : Int := if m ≥ 0 then (if m < 31 then IntKind.i64.wrap ((BitVec.ofInt IntKind.i64.bits 0 ||| BitVec.ofInt IntKind.i64.bits (IntKind.i64.wrap (1 * 2 ^ (min m.toNat IntKind.i64.bits)))).toNat) else 0) else 0
def sp0 : Nat → Option (List AV → Prog AV)
  | _ => none
noncomputable def cx0 : Ctx := { tab := tab, spec := sp0, inl := inl, lps := fun _ _ => none, fuel := 10 }
theorem hsp0 : ∀ g p, cx0.spec g = some p → SoundA Try.prog g p := by
  intro g p h
  change sp0 g = some p at h
  unfold sp0 at h
  split at h
  · cases h
theorem in0 : InlOk Try.prog cx0 := ⟨inl_ok, fun _ _ _ _ _ _ _ _ h => nomatch h⟩
theorem cal0 (g : Nat) : SoundA Try.prog g (evF cx0 keeps 3 g) := evF_sound (tabOk_of tab_ok) (cmpsOk_of tab_ok cmps_ok) mixed in0 hsp0 keeps 3 g
end Go.Proofs.Ytoldjnhbgbhgpaa.Ex

/- What is run, level 0. -/
namespace Go.Proofs.Ytoldjnhbgbhgpaa.Ex
open Go.Proofs Go.Proofs.Ytoldjnhbgbhgpaa
set_option maxRecDepth 100000
theorem raw28 (z : Int) : ev cx0 28 [aM1 z] =
  bif Decidable.decide (z ≥ 0) then
    bif Decidable.decide (z < 31) then
      bif Decidable.decide (z < 0) then Option.none
      else
        Option.some
          (Go.Proofs.Ytoldjnhbgbhgpaa.Ex.AV.int Go.IntKind.i64
              (Go.IntKind.i64.wrap (↑(BitVec.ofInt Go.IntKind.i64.bits 0 ||| BitVec.ofInt Go.IntKind.i64.bits (Go.IntKind.i64.wrap (1 * 2 ^ Min.min z.toNat Go.IntKind.i64.bits))).toNat : Int)),
            { blks := [], c := 0 })
    else Option.some (Go.Proofs.Ytoldjnhbgbhgpaa.Ex.AV.int Go.IntKind.i64 0, { blks := [], c := 0 })
  else Option.some (Go.Proofs.Ytoldjnhbgbhgpaa.Ex.AV.int Go.IntKind.i64 0, { blks := [], c := 0 }) := by kernel_rfl
end Go.Proofs.Ytoldjnhbgbhgpaa.Ex

/- Contracts, level 0. -/
namespace Go.Proofs.Ytoldjnhbgbhgpaa.Ex
open Go.Proofs Go.Proofs.Ytoldjnhbgbhgpaa
set_option maxRecDepth 100000
set_option linter.unusedSimpArgs false
set_option linter.unusedVariables false
theorem ok28 (z : Int) : ev cx0 28 [aM1 z] = outV (aN (bitV z)) := by
  rw [raw28]
  unfold bitV; by_cases h1 : z ≥ 0
  · by_cases h2 : z < 31
    · rw [decide_eq_true h1, decide_eq_true h2, decide_eq_false (show ¬ z < 0 by omega), if_pos h1, if_pos h2]; rfl
    · rw [decide_eq_true h1, decide_eq_false h2, if_pos h1, if_neg h2]; rfl
  · rw [decide_eq_false h1, if_neg h1]; rfl
def M28 : List AV → Option (Bool × AV × List Blk)
  | [v_z] => (gM1 v_z).bind fun z => some (true, aN (bitV z), [])
  | _ => none
theorem hM28 (args : List AV) (v : AV) (bs : List Blk) (h : M28 args = some (true, v, bs)) : AV.idsL args = [] ∧ (true = true ∨ (plainV v = true ∧ bs.all plainB = true)) ∧ ∃ fb, ex ((evF cx0 keeps 3 28 args).bind (finP true)) false ⟨[], 0⟩ ⟨[], []⟩ = some (v, ⟨enumB 0 bs, bs.length⟩, fb) := by
  unfold M28 at h
  split at h
  · obtain ⟨z, h_z, h0⟩ := Option.bind_eq_some_iff.1 h
    simp only [Option.some.injEq, Prod.mk.injEq] at h0
    obtain ⟨_, rfl, rfl⟩ := h0
    have e_z := gM1_some h_z
    subst e_z
    exact ⟨rfl, .inl rfl, ev_ex (ok28 z)⟩
  · cases h
theorem snd28 : SoundA Try.prog 28 (specP true M28) := soundA_spec (fz := true) (cal0 28) hM28
end Go.Proofs.Ytoldjnhbgbhgpaa.Ex

/- Contracts, level 1. -/
namespace Go.Proofs.Ytoldjnhbgbhgpaa.Ex
open Go.Proofs Go.Proofs.Ytoldjnhbgbhgpaa
set_option maxRecDepth 100000
set_option linter.unusedSimpArgs false
set_option linter.unusedVariables false
def hasV (s m : Int) : Bool := IntKind.i64.wrap ((BitVec.ofInt IntKind.i64.bits s &&& BitVec.ofInt IntKind.i64.bits (bitV m)).toNat) != 0
def sp1 : Nat → Option (List AV → Prog AV)
  | 28 => some (specP true M28)
  | _ => none
noncomputable def cx1 : Ctx := { tab := tab, spec := sp1, inl := inl, lps := fun _ _ => none, fuel := 10 }
theorem hsp1 : ∀ g p, cx1.spec g = some p → SoundA Try.prog g p := by
  intro g p h
  change sp1 g = some p at h
  unfold sp1 at h
  split at h
  · cases h; exact snd28
  · cases h
theorem in1 : InlOk Try.prog cx1 := ⟨inl_ok, fun _ _ _ _ _ _ _ _ h => nomatch h⟩
theorem cal1 (g : Nat) : SoundA Try.prog g (evF cx1 keeps 3 g) := evF_sound (tabOk_of tab_ok) (cmpsOk_of tab_ok cmps_ok) mixed in1 hsp1 keeps 3 g
end Go.Proofs.Ytoldjnhbgbhgpaa.Ex

/- What is run, level 1. -/
namespace Go.Proofs.Ytoldjnhbgbhgpaa.Ex
open Go.Proofs Go.Proofs.Ytoldjnhbgbhgpaa
set_option maxRecDepth 100000
theorem raw23 (s : Int) (m : Int) : ev cx1 23 [aN s, aN m] =
  Option.some (Go.Proofs.Ytoldjnhbgbhgpaa.Ex.AV.bool (Go.IntKind.i64.wrap (↑(BitVec.ofInt Go.IntKind.i64.bits s &&& BitVec.ofInt Go.IntKind.i64.bits (Go.Proofs.Ytoldjnhbgbhgpaa.Ex.bitV m)).toNat : Int) != 0), { blks := [], c := 0 }) := by kernel_rfl
end Go.Proofs.Ytoldjnhbgbhgpaa.Ex

/- Contracts, level 1. -/
namespace Go.Proofs.Ytoldjnhbgbhgpaa.Ex
open Go.Proofs Go.Proofs.Ytoldjnhbgbhgpaa
set_option maxRecDepth 100000
set_option linter.unusedSimpArgs false
set_option linter.unusedVariables false
theorem ok23 (s : Int) (m : Int) : ev cx1 23 [aN s, aN m] = outV (.bool (hasV s m)) := by
  rw [raw23]
  rfl
def M23 : List AV → Option (Bool × AV × List Blk)
  | [v_s, v_m] => (gN v_s).bind fun s => (gN v_m).bind fun m => some (true, .bool (hasV s m), [])
  | _ => none
theorem hM23 (args : List AV) (v : AV) (bs : List Blk) (h : M23 args = some (true, v, bs)) : AV.idsL args = [] ∧ (true = true ∨ (plainV v = true ∧ bs.all plainB = true)) ∧ ∃ fb, ex ((evF cx1 keeps 3 23 args).bind (finP true)) false ⟨[], 0⟩ ⟨[], []⟩ = some (v, ⟨enumB 0 bs, bs.length⟩, fb) := by
  unfold M23 at h
  split at h
  · obtain ⟨s, h_s, h0⟩ := Option.bind_eq_some_iff.1 h
    obtain ⟨m, h_m, h1⟩ := Option.bind_eq_some_iff.1 h0
    simp only [Option.some.injEq, Prod.mk.injEq] at h1
    obtain ⟨_, rfl, rfl⟩ := h1
    have e_s := gN_some h_s
    have e_m := gN_some h_m
    subst e_s e_m
    exact ⟨rfl, .inl rfl, ev_ex (ok23 s m)⟩
  · cases h
theorem snd23 : SoundA Try.prog 23 (specP true M23) := soundA_spec (fz := true) (cal1 23) hM23
end Go.Proofs.Ytoldjnhbgbhgpaa.Ex

