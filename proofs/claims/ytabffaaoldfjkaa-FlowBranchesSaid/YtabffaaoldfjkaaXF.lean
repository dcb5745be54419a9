/- A part of the proofs of the laws of flow: XF. -/
import Derived.Test.YtabffaaoldfjkaaXD
import Derived.Test.YtabffaaoldfjkaaXE
import Derived.Test.YtabffaaoldfjkaaRows
/- The program of a seat, for the executor. -/
namespace Go.Proofs.Ytabffaaoldfjkaa.Ex
open Go.Proofs Go.Proofs.Ytabffaaoldfjkaa
instance rt0 : RT where
  C := fun _ => Bool
  body := fun _ => .bool
  unf := fun _ x => x
  fld := fun _ x => x
  uf := fun _ _ => rfl
  fu := fun _ _ => rfl
def tab : List (TypeId × TInfo) := [
  (3, ⟨(.int .i64), 8, 0, [], false⟩),
  (4, ⟨.bool, 1, 0, [], false⟩),
  (22, ⟨(.st (.pair (.int .i64) (.int .i64))), 16, 0, [(0, 1), (1, 1)], true⟩),
  (23, ⟨(.st (.pair (.int .i64) (.int .i64))), 16, 0, [(0, 1), (1, 1)], true⟩),
  (25, ⟨(.sl (.int .i64)), 24, 3, [], false⟩),
  (26, ⟨(.sl (.st (.pair (.int .i64) (.sl (.st (.pair (.int .i64) (.pair (.int .i64) (.pair (.int .i64) (.pair (.int .i64) (.pair (.int .i64) (.pair (.int .i64) (.pair (.int .i64) (.pair (.int .i64) (.int .i64)))))))))))))), 24, 51, [], false⟩),
  (27, ⟨(.st (.pair (.sl (.int .i64)) (.pair (.sl (.int .i64)) (.pair (.int .i64) (.sl (.st (.pair (.int .i64) (.sl (.st (.pair (.int .i64) (.pair (.int .i64) (.pair (.int .i64) (.pair (.int .i64) (.pair (.int .i64) (.pair (.int .i64) (.pair (.int .i64) (.pair (.int .i64) (.int .i64)))))))))))))))))), 80, 0, [(0, 1), (1, 1), (2, 1), (3, 1)], false⟩),
  (28, ⟨(.st (.pair (.sl (.int .i64)) (.pair (.sl (.int .i64)) (.pair (.int .i64) (.sl (.st (.pair (.int .i64) (.sl (.st (.pair (.int .i64) (.pair (.int .i64) (.pair (.int .i64) (.pair (.int .i64) (.pair (.int .i64) (.pair (.int .i64) (.pair (.int .i64) (.pair (.int .i64) (.int .i64)))))))))))))))))), 80, 0, [(0, 1), (1, 1), (2, 1), (3, 1)], false⟩),
  (30, ⟨(.st (.pair (.int .i64) (.pair (.int .i64) (.pair (.int .i64) (.pair (.int .i64) (.pair (.int .i64) (.pair (.int .i64) (.pair (.int .i64) (.pair (.int .i64) (.int .i64)))))))))), 72, 0, [(0, 1), (1, 1), (2, 1), (3, 1), (4, 1), (5, 1), (6, 1), (7, 1), (8, 1)], true⟩),
  (31, ⟨(.st (.pair (.int .i64) (.pair (.int .i64) (.pair (.int .i64) (.pair (.int .i64) (.pair (.int .i64) (.pair (.int .i64) (.pair (.int .i64) (.pair (.int .i64) (.int .i64)))))))))), 72, 0, [(0, 1), (1, 1), (2, 1), (3, 1), (4, 1), (5, 1), (6, 1), (7, 1), (8, 1)], true⟩),
  (32, ⟨(.sl (.st (.pair (.int .i64) (.int .i64)))), 24, 23, [], false⟩),
  (33, ⟨(.st (.pair .bool (.pair (.sl (.st (.pair (.int .i64) (.int .i64)))) (.pair (.sl (.st (.pair (.int .i64) (.int .i64)))) (.pair (.sl (.st (.pair (.int .i64) (.int .i64)))) (.pair (.int .i64) (.int .i64))))))), 96, 0, [(0, 1), (1, 1), (2, 1), (3, 1), (4, 1), (5, 1)], false⟩),
  (34, ⟨(.st (.pair .bool (.pair (.sl (.st (.pair (.int .i64) (.int .i64)))) (.pair (.sl (.st (.pair (.int .i64) (.int .i64)))) (.pair (.sl (.st (.pair (.int .i64) (.int .i64)))) (.pair (.int .i64) (.int .i64))))))), 96, 0, [(0, 1), (1, 1), (2, 1), (3, 1), (4, 1), (5, 1)], false⟩),
  (36, ⟨(.sl (.int .i64)), 24, 71, [], false⟩),
  (37, ⟨(.sl (.st (.pair (.int .i64) (.pair .bool (.pair (.int .i64) (.pair (.int .i64) (.st (.pair (.int .i64) (.int .i64))))))))), 24, 53, [], false⟩),
  (38, ⟨(.sl (.st (.pair (.int .i64) (.pair (.int .i64) (.pair .bool (.pair (.int .i64) (.pair .bool (.int .i64)))))))), 24, 55, [], false⟩),
  (39, ⟨(.st (.pair (.st (.pair .bool (.pair (.sl (.st (.pair (.int .i64) (.int .i64)))) (.pair (.sl (.st (.pair (.int .i64) (.int .i64)))) (.pair (.sl (.st (.pair (.int .i64) (.int .i64)))) (.pair (.int .i64) (.int .i64))))))) (.pair (.st (.pair .bool (.pair (.sl (.st (.pair (.int .i64) (.int .i64)))) (.pair (.sl (.st (.pair (.int .i64) (.int .i64)))) (.pair (.sl (.st (.pair (.int .i64) (.int .i64)))) (.pair (.int .i64) (.int .i64))))))) (.pair (.sl (.int .i64)) (.pair (.sl (.st (.pair (.int .i64) (.pair .bool (.pair (.int .i64) (.pair (.int .i64) (.st (.pair (.int .i64) (.int .i64))))))))) (.sl (.st (.pair (.int .i64) (.pair (.int .i64) (.pair .bool (.pair (.int .i64) (.pair .bool (.int .i64))))))))))))), 264, 0, [(0, 6), (6, 6), (12, 1), (13, 1), (14, 1)], false⟩),
  (40, ⟨(.st (.pair (.st (.pair .bool (.pair (.sl (.st (.pair (.int .i64) (.int .i64)))) (.pair (.sl (.st (.pair (.int .i64) (.int .i64)))) (.pair (.sl (.st (.pair (.int .i64) (.int .i64)))) (.pair (.int .i64) (.int .i64))))))) (.pair (.st (.pair .bool (.pair (.sl (.st (.pair (.int .i64) (.int .i64)))) (.pair (.sl (.st (.pair (.int .i64) (.int .i64)))) (.pair (.sl (.st (.pair (.int .i64) (.int .i64)))) (.pair (.int .i64) (.int .i64))))))) (.pair (.sl (.int .i64)) (.pair (.sl (.st (.pair (.int .i64) (.pair .bool (.pair (.int .i64) (.pair (.int .i64) (.st (.pair (.int .i64) (.int .i64))))))))) (.sl (.st (.pair (.int .i64) (.pair (.int .i64) (.pair .bool (.pair (.int .i64) (.pair .bool (.int .i64))))))))))))), 264, 0, [(0, 6), (6, 6), (12, 1), (13, 1), (14, 1)], false⟩),
  (47, ⟨(.int .u64), 8, 0, [], false⟩),
  (49, ⟨(.sl (.st (.pair (.int .i64) (.pair (.int .i64) (.pair (.int .i64) (.pair (.int .i64) (.pair (.int .i64) (.pair (.int .i64) (.pair (.int .i64) (.pair (.int .i64) (.int .i64))))))))))), 24, 31, [], false⟩),
  (50, ⟨(.st (.pair (.int .i64) (.sl (.st (.pair (.int .i64) (.pair (.int .i64) (.pair (.int .i64) (.pair (.int .i64) (.pair (.int .i64) (.pair (.int .i64) (.pair (.int .i64) (.pair (.int .i64) (.int .i64))))))))))))), 32, 0, [(0, 1), (1, 1)], false⟩),
  (51, ⟨(.st (.pair (.int .i64) (.sl (.st (.pair (.int .i64) (.pair (.int .i64) (.pair (.int .i64) (.pair (.int .i64) (.pair (.int .i64) (.pair (.int .i64) (.pair (.int .i64) (.pair (.int .i64) (.int .i64))))))))))))), 32, 0, [(0, 1), (1, 1)], false⟩),
  (52, ⟨(.st (.pair (.int .i64) (.pair .bool (.pair (.int .i64) (.pair (.int .i64) (.st (.pair (.int .i64) (.int .i64)))))))), 48, 0, [(0, 1), (1, 1), (2, 1), (3, 1), (4, 2)], true⟩),
  (53, ⟨(.st (.pair (.int .i64) (.pair .bool (.pair (.int .i64) (.pair (.int .i64) (.st (.pair (.int .i64) (.int .i64)))))))), 48, 0, [(0, 1), (1, 1), (2, 1), (3, 1), (4, 2)], true⟩),
  (54, ⟨(.st (.pair (.int .i64) (.pair (.int .i64) (.pair .bool (.pair (.int .i64) (.pair .bool (.int .i64))))))), 48, 0, [(0, 1), (1, 1), (2, 1), (3, 1), (4, 1), (5, 1)], true⟩),
  (55, ⟨(.st (.pair (.int .i64) (.pair (.int .i64) (.pair .bool (.pair (.int .i64) (.pair .bool (.int .i64))))))), 48, 0, [(0, 1), (1, 1), (2, 1), (3, 1), (4, 1), (5, 1)], true⟩),
  (62, ⟨(.st (.pair (.st (.pair (.int .i64) (.pair (.int .i64) (.pair (.int .i64) (.pair (.int .i64) (.pair (.int .i64) (.pair (.int .i64) (.pair (.int .i64) (.pair (.int .i64) (.int .i64)))))))))) (.pair (.st (.pair (.sl (.int .i64)) (.pair (.sl (.int .i64)) (.pair (.int .i64) (.sl (.st (.pair (.int .i64) (.sl (.st (.pair (.int .i64) (.pair (.int .i64) (.pair (.int .i64) (.pair (.int .i64) (.pair (.int .i64) (.pair (.int .i64) (.pair (.int .i64) (.pair (.int .i64) (.int .i64)))))))))))))))))) (.pair (.int .i64) (.pair (.int .i64) (.pair (.st (.pair .bool (.pair (.sl (.st (.pair (.int .i64) (.int .i64)))) (.pair (.sl (.st (.pair (.int .i64) (.int .i64)))) (.pair (.sl (.st (.pair (.int .i64) (.int .i64)))) (.pair (.int .i64) (.int .i64))))))) (.pair (.sl (.st (.pair (.int .i64) (.pair .bool (.pair (.int .i64) (.pair (.int .i64) (.st (.pair (.int .i64) (.int .i64))))))))) (.st (.pair (.st (.pair .bool (.pair (.sl (.st (.pair (.int .i64) (.int .i64)))) (.pair (.sl (.st (.pair (.int .i64) (.int .i64)))) (.pair (.sl (.st (.pair (.int .i64) (.int .i64)))) (.pair (.int .i64) (.int .i64))))))) (.pair (.st (.pair .bool (.pair (.sl (.st (.pair (.int .i64) (.int .i64)))) (.pair (.sl (.st (.pair (.int .i64) (.int .i64)))) (.pair (.sl (.st (.pair (.int .i64) (.int .i64)))) (.pair (.int .i64) (.int .i64))))))) (.pair (.sl (.int .i64)) (.pair (.sl (.st (.pair (.int .i64) (.pair .bool (.pair (.int .i64) (.pair (.int .i64) (.st (.pair (.int .i64) (.int .i64))))))))) (.sl (.st (.pair (.int .i64) (.pair (.int .i64) (.pair .bool (.pair (.int .i64) (.pair .bool (.int .i64)))))))))))))))))))), 552, 0, [(0, 9), (9, 4), (13, 1), (14, 1), (15, 6), (21, 1), (22, 15)], false⟩),
  (63, ⟨(.st (.pair (.st (.pair (.int .i64) (.pair (.int .i64) (.pair (.int .i64) (.pair (.int .i64) (.pair (.int .i64) (.pair (.int .i64) (.pair (.int .i64) (.pair (.int .i64) (.int .i64)))))))))) (.pair (.st (.pair (.sl (.int .i64)) (.pair (.sl (.int .i64)) (.pair (.int .i64) (.sl (.st (.pair (.int .i64) (.sl (.st (.pair (.int .i64) (.pair (.int .i64) (.pair (.int .i64) (.pair (.int .i64) (.pair (.int .i64) (.pair (.int .i64) (.pair (.int .i64) (.pair (.int .i64) (.int .i64)))))))))))))))))) (.pair (.int .i64) (.pair (.int .i64) (.pair (.st (.pair .bool (.pair (.sl (.st (.pair (.int .i64) (.int .i64)))) (.pair (.sl (.st (.pair (.int .i64) (.int .i64)))) (.pair (.sl (.st (.pair (.int .i64) (.int .i64)))) (.pair (.int .i64) (.int .i64))))))) (.pair (.sl (.st (.pair (.int .i64) (.pair .bool (.pair (.int .i64) (.pair (.int .i64) (.st (.pair (.int .i64) (.int .i64))))))))) (.st (.pair (.st (.pair .bool (.pair (.sl (.st (.pair (.int .i64) (.int .i64)))) (.pair (.sl (.st (.pair (.int .i64) (.int .i64)))) (.pair (.sl (.st (.pair (.int .i64) (.int .i64)))) (.pair (.int .i64) (.int .i64))))))) (.pair (.st (.pair .bool (.pair (.sl (.st (.pair (.int .i64) (.int .i64)))) (.pair (.sl (.st (.pair (.int .i64) (.int .i64)))) (.pair (.sl (.st (.pair (.int .i64) (.int .i64)))) (.pair (.int .i64) (.int .i64))))))) (.pair (.sl (.int .i64)) (.pair (.sl (.st (.pair (.int .i64) (.pair .bool (.pair (.int .i64) (.pair (.int .i64) (.st (.pair (.int .i64) (.int .i64))))))))) (.sl (.st (.pair (.int .i64) (.pair (.int .i64) (.pair .bool (.pair (.int .i64) (.pair .bool (.int .i64)))))))))))))))))))), 552, 0, [(0, 9), (9, 4), (13, 1), (14, 1), (15, 6), (21, 1), (22, 15)], false⟩),
  (71, ⟨(.int .i64), 8, 0, [], false⟩)]
def keeps : Nat → List Nat
  | 3 => [0, 1, 3, 4, 2, 37, 7, 8, 47, 9, 10, 12, 99, 11, 127, 13, 6]
  | 4 => [0, 1, 2, 42, 3, 45, 9, 10, 11, 71, 12, 13, 14, 85, 128, 8]
  | 5 => [0, 1, 4, 5, 2, 3, 46, 9, 10, 65, 11, 12, 118, 128, 14, 13, 8]
  | 6 => [0, 1, 2]
  | 7 => [0, 1, 2]
  | 8 => [0, 7, 1, 16, 24, 6, 5, 4]
  | 9 => [0, 1, 2, 17, 4, 6, 27, 5, 7, 40, 8, 58]
  | 10 => [0, 3, 5, 1, 2, 8, 4, 29, 11, 10]
  | 11 => [1, 2, 4, 5, 15, 6, 7, 0, 20, 21, 8, 9, 41, 59, 79, 97, 103, 116]
  | 12 => [0, 3, 4, 6, 8, 10, 12, 14, 2]
  | 13 => [1, 2, 0]
  | 14 => [0, 1, 2, 6, 3, 4, 9]
  | 15 => [0]
  | 16 => [0, 2]
  | 17 => [0, 2]
  | 18 => [0, 6, 7, 18, 34, 39, 43, 71, 75, 80, 84, 88, 113, 123]
  | 19 => [0, 1, 7, 4]
  | 20 => [0, 1, 2, 3, 4]
  | 21 => [0, 1, 3, 11, 2, 4, 21, 5, 28, 6]
  | 22 => [1, 0, 3]
  | 23 => [0, 9, 8, 10, 7, 5, 15, 3, 2]
  | 24 => [0]
  | 25 => [0, 3, 4, 2, 49]
  | 26 => [0, 1, 2]
  | 27 => [0, 2, 8, 4, 16, 13, 5, 3, 1, 12]
  | 28 => [0, 2, 3]
  | 29 => [0, 2, 4, 3, 48, 67, 83, 5]
  | 30 => [0, 27, 2]
  | 31 => [0, 29, 2]
  | 32 => [1, 0, 46, 5, 6, 56, 4]
  | 33 => [0, 3, 4, 6, 8, 10, 12, 14, 2]
  | 34 => [1, 6, 0, 2]
  | 35 => [1, 5, 2, 17, 16, 18, 15, 10, 3, 9, 8]
  | 36 => [0]
  | 37 => [0, 7, 6, 8, 5, 4, 16, 2]
  | 38 => [0, 9, 8, 10, 7, 5, 24, 3, 27, 2]
  | 39 => [1, 2, 4, 5, 15, 6, 0, 18, 19, 9, 32, 45, 50, 7, 62, 8]
  | 40 => [0, 1, 2]
  | 41 => [0, 1, 2, 3, 4, 10]
  | 42 => [2, 0, 1, 5]
  | 43 => [0, 4, 2]
  | 44 => [0, 1, 2, 3, 4]
  | 45 => [0, 1, 2, 3, 5, 26, 4]
  | 46 => [0, 1, 4]
  | 47 => [1, 13, 12, 14, 11, 7, 8, 0, 2, 6]
  | 48 => [0, 1, 4]
  | 49 => [0, 1, 4]
  | 50 => [1, 2, 4, 5, 0, 12, 15, 8, 9, 31, 45, 59, 75, 81, 6, 7, 102]
  | 51 => [0, 4]
  | 52 => [0, 1, 2, 3, 4, 7, 6]
  | 53 => [0, 1, 4]
  | 54 => [0, 1, 17, 16, 18, 15, 3, 9, 10, 26, 2, 6, 11, 7, 4, 5]
  | 55 => [0, 1, 2, 4]
  | 56 => [0, 1, 3, 9, 4, 2, 26, 5, 6, 35]
  | 57 => [0, 19, 18, 20, 17, 15, 1, 2, 3, 4, 5, 49, 13, 12]
  | 58 => [0, 2]
  | 59 => [0, 8, 7, 9, 6, 5, 17, 3, 2]
  | 60 => [5, 0, 1, 2, 3, 4, 11, 12]
  | 61 => [0, 1, 3, 5, 2, 11, 21, 4]
  | 62 => [0, 1, 4]
  | 63 => [0, 1, 4]
  | 64 => [0, 2, 1, 3]
  | 65 => [5, 6, 0, 4, 10, 3, 2]
  | _ => []
noncomputable def inl : Nat → Option Func
  | 3 => some Try.f3
  | 4 => some Try.f4
  | 5 => some Try.f5
  | 6 => some Try.f6
  | 7 => some Try.f7
  | 8 => some Try.f8
  | 9 => some Try.f9
  | 10 => some Try.f10
  | 11 => some Try.f11
  | 12 => some Try.f12
  | 13 => some Try.f13
  | 14 => some Try.f14
  | 15 => some Try.f15
  | 16 => some Try.f16
  | 17 => some Try.f17
  | 18 => some Try.f18
  | 19 => some Try.f19
  | 20 => some Try.f20
  | 21 => some Try.f21
  | 22 => some Try.f22
  | 23 => some Try.f23
  | 24 => some Try.f24
  | 25 => some Try.f25
  | 26 => some Try.f26
  | 27 => some Try.f27
  | 28 => some Try.f28
  | 29 => some Try.f29
  | 30 => some Try.f30
  | 31 => some Try.f31
  | 32 => some Try.f32
  | 33 => some Try.f33
  | 34 => some Try.f34
  | 35 => some Try.f35
  | 36 => some Try.f36
  | 37 => some Try.f37
  | 38 => some Try.f38
  | 39 => some Try.f39
  | 40 => some Try.f40
  | 41 => some Try.f41
  | 42 => some Try.f42
  | 43 => some Try.f43
  | 44 => some Try.f44
  | 45 => some Try.f45
  | 46 => some Try.f46
  | 47 => some Try.f47
  | 48 => some Try.f48
  | 49 => some Try.f49
  | 50 => some Try.f50
  | 51 => some Try.f51
  | 52 => some Try.f52
  | 53 => some Try.f53
  | 54 => some Try.f54
  | 55 => some Try.f55
  | 56 => some Try.f56
  | 57 => some Try.f57
  | 58 => some Try.f58
  | 59 => some Try.f59
  | 60 => some Try.f60
  | 61 => some Try.f61
  | 62 => some Try.f62
  | 63 => some Try.f63
  | 64 => some Try.f64
  | 65 => some Try.f65
  | _ => none
theorem tab_ok : tabB Try.prog tab = true := by kernel_rfl
theorem cmps_ok : cmpsB Try.prog tab = true := by kernel_rfl
theorem mixed : Try.prog.follows .mixedOrders = true := by kernel_rfl
theorem inl_ok : ∀ g fn, inl g = some fn → Try.prog.funcs[g]? = some fn ∧ (fn.name == "runtime.NumGoroutine") = false := by
  intro g fn h
  unfold inl at h
  split at h
  · cases h; exact ⟨Try.func3, by kernel_rfl⟩
  · cases h; exact ⟨Try.func4, by kernel_rfl⟩
  · cases h; exact ⟨Try.func5, by kernel_rfl⟩
  · cases h; exact ⟨Try.func6, by kernel_rfl⟩
  · cases h; exact ⟨Try.func7, by kernel_rfl⟩
  · cases h; exact ⟨Try.func8, by kernel_rfl⟩
  · cases h; exact ⟨Try.func9, by kernel_rfl⟩
  · cases h; exact ⟨Try.func10, by kernel_rfl⟩
  · cases h; exact ⟨Try.func11, by kernel_rfl⟩
  · cases h; exact ⟨Try.func12, by kernel_rfl⟩
  · cases h; exact ⟨Try.func13, by kernel_rfl⟩
  · cases h; exact ⟨Try.func14, by kernel_rfl⟩
  · cases h; exact ⟨Try.func15, by kernel_rfl⟩
  · cases h; exact ⟨Try.func16, by kernel_rfl⟩
  · cases h; exact ⟨Try.func17, by kernel_rfl⟩
  · cases h; exact ⟨Try.func18, by kernel_rfl⟩
  · cases h; exact ⟨Try.func19, by kernel_rfl⟩
  · cases h; exact ⟨Try.func20, by kernel_rfl⟩
  · cases h; exact ⟨Try.func21, by kernel_rfl⟩
  · cases h; exact ⟨Try.func22, by kernel_rfl⟩
  · cases h; exact ⟨Try.func23, by kernel_rfl⟩
  · cases h; exact ⟨Try.func24, by kernel_rfl⟩
  · cases h; exact ⟨Try.func25, by kernel_rfl⟩
  · cases h; exact ⟨Try.func26, by kernel_rfl⟩
  · cases h; exact ⟨Try.func27, by kernel_rfl⟩
  · cases h; exact ⟨Try.func28, by kernel_rfl⟩
  · cases h; exact ⟨Try.func29, by kernel_rfl⟩
  · cases h; exact ⟨Try.func30, by kernel_rfl⟩
  · cases h; exact ⟨Try.func31, by kernel_rfl⟩
  · cases h; exact ⟨Try.func32, by kernel_rfl⟩
  · cases h; exact ⟨Try.func33, by kernel_rfl⟩
  · cases h; exact ⟨Try.func34, by kernel_rfl⟩
  · cases h; exact ⟨Try.func35, by kernel_rfl⟩
  · cases h; exact ⟨Try.func36, by kernel_rfl⟩
  · cases h; exact ⟨Try.func37, by kernel_rfl⟩
  · cases h; exact ⟨Try.func38, by kernel_rfl⟩
  · cases h; exact ⟨Try.func39, by kernel_rfl⟩
  · cases h; exact ⟨Try.func40, by kernel_rfl⟩
  · cases h; exact ⟨Try.func41, by kernel_rfl⟩
  · cases h; exact ⟨Try.func42, by kernel_rfl⟩
  · cases h; exact ⟨Try.func43, by kernel_rfl⟩
  · cases h; exact ⟨Try.func44, by kernel_rfl⟩
  · cases h; exact ⟨Try.func45, by kernel_rfl⟩
  · cases h; exact ⟨Try.func46, by kernel_rfl⟩
  · cases h; exact ⟨Try.func47, by kernel_rfl⟩
  · cases h; exact ⟨Try.func48, by kernel_rfl⟩
  · cases h; exact ⟨Try.func49, by kernel_rfl⟩
  · cases h; exact ⟨Try.func50, by kernel_rfl⟩
  · cases h; exact ⟨Try.func51, by kernel_rfl⟩
  · cases h; exact ⟨Try.func52, by kernel_rfl⟩
  · cases h; exact ⟨Try.func53, by kernel_rfl⟩
  · cases h; exact ⟨Try.func54, by kernel_rfl⟩
  · cases h; exact ⟨Try.func55, by kernel_rfl⟩
  · cases h; exact ⟨Try.func56, by kernel_rfl⟩
  · cases h; exact ⟨Try.func57, by kernel_rfl⟩
  · cases h; exact ⟨Try.func58, by kernel_rfl⟩
  · cases h; exact ⟨Try.func59, by kernel_rfl⟩
  · cases h; exact ⟨Try.func60, by kernel_rfl⟩
  · cases h; exact ⟨Try.func61, by kernel_rfl⟩
  · cases h; exact ⟨Try.func62, by kernel_rfl⟩
  · cases h; exact ⟨Try.func63, by kernel_rfl⟩
  · cases h; exact ⟨Try.func64, by kernel_rfl⟩
  · cases h; exact ⟨Try.func65, by kernel_rfl⟩
  · cases h
end Go.Proofs.Ytabffaaoldfjkaa.Ex

/- What is gone through whole. -/
namespace Go.Proofs.Ytabffaaoldfjkaa.Ex
open Go.Proofs Go.Proofs.Ytabffaaoldfjkaa
abbrev tI : Ty := .st (.pair (.int .i64) (.int .i64))
noncomputable def cx0 : Ctx := { tab := tab, spec := fun _ => none, inl := inl, lps := fun _ _ => none, fuel := 40 }
theorem sndClone : SoundA Try.prog 43 (cloneP 16 tI) :=
  clone_sound (cx := cx0) (cal := fun _ _ => .fail) (i := ⟨.sl tI, 24, 23, [], false⟩) (ie := ⟨tI, 16, 0, [(0, 1), (1, 1)], true⟩) (tabOk_of tab_ok) Try.func43 (inl_ok 43 Try.f43 rfl).2 (t := 32) (tb := 4) (s0 := "slices.go:355") (s1 := "slices.go:357") (s2 := "slices.go:358") (s3 := "slices.go:362") (by kernel_rfl) (by kernel_rfl) (by kernel_rfl) rfl rfl rfl rfl
def spD : Nat → Option (List AV → Prog AV)
  | 43 => some (cloneP 16 tI)
  | _ => none
noncomputable def cxD : Ctx := { tab := tab, spec := spD, inl := inl, lps := fun _ _ => none, fuel := 40 }
theorem hspD : ∀ g p, cxD.spec g = some p → SoundA Try.prog g p := by
  intro g p h
  change spD g = some p at h
  unfold spD at h
  split at h
  · cases h; exact sndClone
  · cases h
theorem inD : InlOk Try.prog cxD := ⟨inl_ok, fun _ _ _ _ _ _ _ _ h => nomatch h⟩
theorem calD (n g : Nat) : SoundA Try.prog g (evF cxD keeps n g) := evF_sound (tabOk_of tab_ok) (cmpsOk_of tab_ok cmps_ok) mixed inD hspD keeps n g
noncomputable def evD (g : FuncId) (args : List AV) : Option (AV × Hp) := run ((evF cxD keeps 12 g args).bind (finP true)) false ⟨[], 0⟩ ⟨[], []⟩ fun v h _ => some (v, h)
end Go.Proofs.Ytabffaaoldfjkaa.Ex

