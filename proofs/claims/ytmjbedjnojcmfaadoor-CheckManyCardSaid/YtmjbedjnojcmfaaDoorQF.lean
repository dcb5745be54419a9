/- A part of the proofs of which programs may be: QF. -/
import Derived.Test.YtmjbedjnojcmfaaDoorQD
import Derived.Test.YtmjbedjnojcmfaaDoorRows
import Derived.Test.YtmjbedjnojcmfaaDoorQE
import Derived.Test.YtmjbedjnojcmfaaDoorQA
import Derived.Test.YtmjbedjnojcmfaaDoorQC
import Derived.Shelf.Small.Strs
import Derived.Shelf.Strings.SlTrimAscii
import Derived.Test.YtmjbedjnojcmfaaDoorQB
import Derived.Below
import Derived.Lib.Bytealg
import Derived.Lib.SlTrimSet
import Derived.Conc.MuLone
namespace Go.Proofs.YtmjbedjnojcmfaaDoor.Ex
open Go.Proofs Go.Proofs.YtmjbedjnojcmfaaDoor
set_option maxHeartbeats 4000000
set_option maxRecDepth 100000
inductive T0 where
  | mk (x : (Int × (Int × (Int × (ByteArray × (List T0))))))
inductive T1 where
  | mk (x : (Int × (Int × ((List T0) × (List T1)))))
inductive T2 where
  | mk (x : (Int × (ByteArray × ((Int × (Int × (Int × (ByteArray × (List T0))))) × ((Int × (Int × (Int × (ByteArray × (List T0))))) × ((Int × (Int × ((List T0) × (List T1)))) × ((List T2) × (List T2))))))))
abbrev TC : Nat → Type
  | 0 => T0
  | 1 => T1
  | 2 => T2
  | _ => Bool
abbrev TB : Nat → Ty
  | 0 => (.st (.pair (.int .i64) (.pair (.int .i64) (.pair (.int .i64) (.pair .str (.sl (.mu 0)))))))
  | 1 => (.st (.pair (.int .i64) (.pair (.int .i64) (.pair (.sl (.mu 0)) (.sl (.mu 1))))))
  | 2 => (.st (.pair (.int .i64) (.pair .str (.pair (.st (.pair (.int .i64) (.pair (.int .i64) (.pair (.int .i64) (.pair .str (.sl (.mu 0))))))) (.pair (.st (.pair (.int .i64) (.pair (.int .i64) (.pair (.int .i64) (.pair .str (.sl (.mu 0))))))) (.pair (.st (.pair (.int .i64) (.pair (.int .i64) (.pair (.sl (.mu 0)) (.sl (.mu 1)))))) (.pair (.sl (.mu 2)) (.sl (.mu 2)))))))))
  | _ => .bool
def trU : (n : Nat) → TC n → Den TC (TB n)
  | 0, x => match x with | .mk y => y
  | 1, x => match x with | .mk y => y
  | 2, x => match x with | .mk y => y
  | _ + 3, x => x
def trF : (n : Nat) → Den TC (TB n) → TC n
  | 0, x => T0.mk x
  | 1, x => T1.mk x
  | 2, x => T2.mk x
  | _ + 3, x => x
instance rt0 : RT := {
  C := TC
  body := TB
  unf := trU
  fld := trF
  uf := fun n x => match n, x with | 0, _ => rfl | 1, _ => rfl | 2, _ => rfl | _ + 3, _ => rfl
  fu := fun n x => match n, x with | 0, .mk _ => rfl | 1, .mk _ => rfl | 2, .mk _ => rfl | _ + 3, _ => rfl }
def tab : List (TypeId × TInfo) := [
  (1, ⟨(.mu 1000), 8, 0, [], false⟩),
  (3, ⟨(.int .i64), 8, 0, [], false⟩),
  (4, ⟨.bool, 1, 0, [], false⟩),
  (5, ⟨(.int .u8), 1, 0, [], false⟩),
  (9, ⟨.str, 16, 0, [], false⟩),
  (12, ⟨(.int .u64), 8, 0, [], false⟩),
  (22, ⟨(.sl (.st (.pair .str (.int .i64)))), 24, 32, [], false⟩),
  (23, ⟨(.sl (.st (.pair .str (.int .i64)))), 24, 34, [], false⟩),
  (24, ⟨(.sl .str), 24, 9, [], false⟩),
  (25, ⟨(.sl (.st (.pair .str (.pair (.sl .str) (.sl (.mu 2)))))), 24, 30, [], false⟩),
  (26, ⟨(.st (.pair (.sl (.st (.pair .str (.int .i64)))) (.pair (.sl (.st (.pair .str (.int .i64)))) (.pair (.sl .str) (.sl (.st (.pair .str (.pair (.sl .str) (.sl (.mu 2)))))))))), 96, 0, [(0, 1), (1, 1), (2, 1), (3, 1)], false⟩),
  (27, ⟨(.st (.pair (.sl (.st (.pair .str (.int .i64)))) (.pair (.sl (.st (.pair .str (.int .i64)))) (.pair (.sl .str) (.sl (.st (.pair .str (.pair (.sl .str) (.sl (.mu 2)))))))))), 96, 0, [(0, 1), (1, 1), (2, 1), (3, 1)], false⟩),
  (28, ⟨(.sl (.mu 2)), 24, 43, [], false⟩),
  (29, ⟨(.st (.pair .str (.pair (.sl .str) (.sl (.mu 2))))), 64, 0, [(0, 1), (1, 1), (2, 1)], false⟩),
  (30, ⟨(.st (.pair .str (.pair (.sl .str) (.sl (.mu 2))))), 64, 0, [(0, 1), (1, 1), (2, 1)], false⟩),
  (31, ⟨(.st (.pair .str (.int .i64))), 24, 0, [(0, 1), (1, 1)], true⟩),
  (32, ⟨(.st (.pair .str (.int .i64))), 24, 0, [(0, 1), (1, 1)], true⟩),
  (33, ⟨(.st (.pair .str (.int .i64))), 24, 0, [(0, 1), (1, 1)], true⟩),
  (34, ⟨(.st (.pair .str (.int .i64))), 24, 0, [(0, 1), (1, 1)], true⟩),
  (35, ⟨(.sl (.mu 0)), 24, 37, [], false⟩),
  (36, ⟨(.st (.pair (.int .i64) (.pair (.int .i64) (.pair (.int .i64) (.pair .str (.sl (.mu 0))))))), 64, 0, [(0, 1), (1, 1), (2, 1), (3, 1), (4, 1)], false⟩),
  (37, ⟨(.st (.pair (.int .i64) (.pair (.int .i64) (.pair (.int .i64) (.pair .str (.sl (.mu 0))))))), 64, 0, [(0, 1), (1, 1), (2, 1), (3, 1), (4, 1)], false⟩),
  (38, ⟨(.sl (.int .i64)), 24, 3, [], false⟩),
  (39, ⟨(.sl (.mu 1)), 24, 41, [], false⟩),
  (40, ⟨(.st (.pair (.int .i64) (.pair (.int .i64) (.pair (.sl (.mu 0)) (.sl (.mu 1)))))), 64, 0, [(0, 1), (1, 1), (2, 1), (3, 1)], false⟩),
  (41, ⟨(.st (.pair (.int .i64) (.pair (.int .i64) (.pair (.sl (.mu 0)) (.sl (.mu 1)))))), 64, 0, [(0, 1), (1, 1), (2, 1), (3, 1)], false⟩),
  (42, ⟨(.st (.pair (.int .i64) (.pair .str (.pair (.st (.pair (.int .i64) (.pair (.int .i64) (.pair (.int .i64) (.pair .str (.sl (.mu 0))))))) (.pair (.st (.pair (.int .i64) (.pair (.int .i64) (.pair (.int .i64) (.pair .str (.sl (.mu 0))))))) (.pair (.st (.pair (.int .i64) (.pair (.int .i64) (.pair (.sl (.mu 0)) (.sl (.mu 1)))))) (.pair (.sl (.mu 2)) (.sl (.mu 2))))))))), 264, 0, [(0, 1), (1, 1), (2, 5), (7, 5), (12, 4), (16, 1), (17, 1)], false⟩),
  (43, ⟨(.st (.pair (.int .i64) (.pair .str (.pair (.st (.pair (.int .i64) (.pair (.int .i64) (.pair (.int .i64) (.pair .str (.sl (.mu 0))))))) (.pair (.st (.pair (.int .i64) (.pair (.int .i64) (.pair (.int .i64) (.pair .str (.sl (.mu 0))))))) (.pair (.st (.pair (.int .i64) (.pair (.int .i64) (.pair (.sl (.mu 0)) (.sl (.mu 1)))))) (.pair (.sl (.mu 2)) (.sl (.mu 2))))))))), 264, 0, [(0, 1), (1, 1), (2, 5), (7, 5), (12, 4), (16, 1), (17, 1)], false⟩),
  (44, ⟨(.int .i64), 8, 0, [], false⟩),
  (45, ⟨(.mu 1000), 8, 0, [], false⟩),
  (46, ⟨(.sl (.int .i64)), 24, 44, [], false⟩),
  (47, ⟨(.mu 1000), 8, 0, [], false⟩),
  (48, ⟨(.mu 1000), 8, 0, [], false⟩),
  (49, ⟨(.mu 1000), 8, 0, [], false⟩),
  (50, ⟨(.mu 1000), 8, 0, [], false⟩),
  (51, ⟨(.sl (.int .u8)), 24, 5, [], false⟩),
  (52, ⟨(.mu 1000), 8, 0, [], false⟩),
  (53, ⟨(.mu 1000), 8, 0, [], false⟩),
  (54, ⟨(.mu 1000), 8, 0, [], false⟩),
  (55, ⟨(.mu 1000), 8, 0, [], false⟩),
  (56, ⟨(.mu 1000), 8, 0, [], false⟩),
  (57, ⟨(.mu 1000), 8, 0, [], false⟩),
  (58, ⟨(.st (.pair (.st (.pair (.sl (.st (.pair .str (.int .i64)))) (.pair (.sl (.st (.pair .str (.int .i64)))) (.pair (.sl .str) (.sl (.st (.pair .str (.pair (.sl .str) (.sl (.mu 2)))))))))) (.st (.pair .str (.pair (.sl .str) (.sl (.mu 2))))))), 160, 0, [(0, 4), (4, 3)], false⟩),
  (59, ⟨(.st (.pair (.st (.pair (.sl (.st (.pair .str (.int .i64)))) (.pair (.sl (.st (.pair .str (.int .i64)))) (.pair (.sl .str) (.sl (.st (.pair .str (.pair (.sl .str) (.sl (.mu 2)))))))))) (.st (.pair .str (.pair (.sl .str) (.sl (.mu 2))))))), 160, 0, [(0, 4), (4, 3)], false⟩),
  (60, ⟨(.mu 1000), 8, 0, [], false⟩),
  (61, ⟨(.mu 1000), 8, 0, [], false⟩),
  (62, ⟨(.mu 1000), 8, 0, [], false⟩),
  (63, ⟨(.mu 1000), 8, 0, [], false⟩),
  (64, ⟨(.mu 1000), 8, 0, [], false⟩),
  (65, ⟨(.mu 1000), 8, 0, [], false⟩),
  (66, ⟨(.mu 1000), 8, 0, [], false⟩),
  (67, ⟨(.mu 1000), 8, 0, [], false⟩),
  (68, ⟨(.mu 1000), 8, 0, [], false⟩),
  (69, ⟨(.mu 1000), 8, 0, [], false⟩),
  (70, ⟨(.mu 1000), 8, 0, [], false⟩),
  (71, ⟨(.mu 1000), 8, 0, [], false⟩),
  (72, ⟨(.mu 1000), 8, 0, [], false⟩),
  (73, ⟨(.mu 1000), 8, 0, [], false⟩),
  (74, ⟨(.mu 1000), 8, 0, [], false⟩),
  (75, ⟨(.mu 1000), 8, 0, [], false⟩),
  (76, ⟨(.mu 1000), 8, 0, [], false⟩),
  (77, ⟨(.mu 1000), 8, 0, [], false⟩),
  (78, ⟨(.mu 1000), 8, 0, [], false⟩),
  (79, ⟨(.mu 1000), 8, 0, [], false⟩),
  (80, ⟨(.mu 1000), 8, 0, [], false⟩),
  (81, ⟨(.mu 1000), 8, 0, [], false⟩),
  (82, ⟨(.mu 1000), 8, 0, [], false⟩),
  (83, ⟨(.mu 1000), 8, 0, [], false⟩),
  (84, ⟨(.mu 1000), 8, 0, [], false⟩),
  (85, ⟨(.mu 1000), 8, 0, [], false⟩),
  (86, ⟨(.mu 1000), 8, 0, [], false⟩),
  (87, ⟨(.mu 1000), 8, 0, [], false⟩),
  (88, ⟨(.mu 1000), 8, 0, [], false⟩),
  (89, ⟨(.mu 1000), 8, 0, [], false⟩),
  (90, ⟨(.mu 1000), 8, 0, [], false⟩),
  (91, ⟨(.mu 1000), 8, 0, [], false⟩),
  (92, ⟨(.mu 1000), 8, 0, [], false⟩),
  (96, ⟨(.mu 1000), 8, 0, [], false⟩),
  (97, ⟨(.mu 1000), 8, 0, [], false⟩),
  (99, ⟨(.mu 1000), 8, 0, [], false⟩),
  (100, ⟨(.mu 1000), 8, 0, [], false⟩),
  (102, ⟨(.mu 1000), 8, 0, [], false⟩),
  (103, ⟨(.mu 1000), 8, 0, [], false⟩),
  (104, ⟨(.mu 1000), 8, 0, [], false⟩),
  (105, ⟨(.mu 1000), 8, 0, [], false⟩),
  (106, ⟨(.mu 1000), 8, 0, [], false⟩),
  (112, ⟨(.mu 1000), 8, 0, [], false⟩),
  (113, ⟨(.mu 1000), 8, 0, [], false⟩),
  (114, ⟨(.mu 1000), 8, 0, [], false⟩),
  (120, ⟨(.mu 1000), 8, 0, [], false⟩),
  (124, ⟨(.mu 1000), 8, 0, [], false⟩)]
def keeps : Nat → List Nat
  | 3 => [0, 20, 1, 23, 2, 24, 10, 9, 27, 30, 36, 7, 44, 52, 8, 66, 11, 12, 70, 13, 14, 6]
  | 4 => [1, 15, 0, 6, 33, 8, 39, 5, 57, 60, 9, 7, 4]
  | 5 => [0, 1, 23, 28, 5, 6, 32, 40, 53, 7, 62, 73, 81, 9, 96, 8, 105, 4]
  | 6 => [0, 1, 28, 5, 8, 37, 44, 45, 6, 7, 54, 64, 9, 78, 10, 4]
  | 7 => [0, 1, 3, 7, 11, 15, 2]
  | 8 => [1, 2, 0]
  | 9 => [0, 1, 4, 32, 3, 46, 48, 52, 5, 60, 76, 2]
  | 10 => [0, 1, 2]
  | 11 => [0, 1, 2]
  | 12 => [0, 1, 14, 13, 15, 12, 3, 6, 27, 26, 28, 25, 8, 44, 43, 45, 42, 4, 10, 58, 2]
  | 13 => [1, 0, 3, 4]
  | 14 => [0, 2, 1, 3]
  | 15 => [1, 0, 3, 4]
  | 16 => [0, 1, 3, 6, 7, 2, 19, 39, 48, 68, 81, 4]
  | 17 => [0, 1, 2, 4]
  | 18 => [0, 3, 1, 13, 33, 4, 38, 66, 5, 71, 80, 6, 85, 7, 102, 8, 107, 116, 2]
  | 19 => [0, 5, 1, 12, 3, 6, 28, 7, 48, 4, 70, 2]
  | 20 => [0, 1, 7, 2, 13, 8, 21, 22, 4, 3, 43, 64, 72, 93, 107, 9, 115, 6]
  | 21 => [0, 1, 2]
  | 22 => [0, 2]
  | 23 => [1, 0, 3, 4]
  | 24 => [0, 1, 2]
  | 25 => [0, 2]
  | 26 => [0, 7, 6, 8, 5, 4, 16, 2]
  | 27 => [1, 0, 3, 4]
  | 28 => [0, 1, 2]
  | 29 => [0, 1, 2, 6]
  | 30 => [0, 1, 2]
  | 31 => [0, 1, 4, 5, 15, 30, 36, 51, 61, 2]
  | 32 => [0, 7, 6, 8, 5, 4, 3, 17, 2]
  | 33 => [0, 4, 2]
  | 34 => [0, 1, 4]
  | 35 => [0, 1, 2, 3]
  | 36 => [0, 1, 4]
  | 37 => [0, 1, 2, 3]
  | 38 => [0, 2, 1, 4]
  | 39 => [0, 1, 3, 2, 4]
  | 40 => [0, 1, 2, 3, 4]
  | 41 => [0, 1, 3, 2, 4]
  | 42 => [1, 0, 4]
  | 43 => [3, 0, 7, 35, 2]
  | 44 => [0, 2]
  | 45 => [3, 0, 9, 4, 17, 18, 28, 43, 49, 64, 74, 79, 5, 82, 2]
  | 46 => [3, 0, 7, 18, 2]
  | 47 => [0, 2, 1, 4]
  | 48 => [0, 5, 2, 10, 1, 20, 4]
  | 49 => [0, 1, 2, 5, 4, 3, 24, 34, 7, 39, 50, 6]
  | 50 => [0, 5, 2, 10, 1, 20, 4]
  | 51 => [0, 2, 1, 4]
  | 52 => [0, 1, 2, 7, 5, 13, 3, 4, 24, 8, 29, 40, 6]
  | 53 => [0, 1, 4]
  | 54 => [0, 2]
  | 55 => [0, 1, 4]
  | 56 => [0, 1, 2, 3]
  | 57 => [0, 1, 4]
  | 58 => [0, 1, 12, 21, 6, 34, 5, 4]
  | 59 => [0, 1, 4]
  | 60 => [0, 1, 2, 3]
  | 61 => [0, 1, 6, 7, 12, 14, 19, 24, 26, 3, 4, 2]
  | 62 => [0, 1, 7, 8, 13, 15, 3, 4, 5, 2]
  | 63 => [0, 8, 7, 9, 1, 5, 16, 4]
  | 64 => [0, 8, 7, 9, 1, 5, 16, 4]
  | 65 => [0, 1, 2, 4]
  | 66 => [0, 1, 2, 3, 4]
  | 67 => [1, 0, 3, 4]
  | 68 => [0, 8, 7, 9, 1, 5, 16, 4]
  | 69 => [0, 2, 1, 3]
  | 70 => [1, 0, 3, 4]
  | 71 => [0, 8, 7, 9, 1, 5, 16, 4]
  | 72 => [0, 1, 40, 54, 3, 59, 68, 2]
  | 73 => [0, 1, 8, 9, 11, 13, 3, 4, 41, 5, 44, 53, 6, 56, 65, 2]
  | 74 => [5, 0, 9, 1, 17, 4]
  | 75 => [0, 8, 7, 9, 1, 5, 16, 4]
  | 76 => [0, 8, 7, 9, 1, 5, 16, 4]
  | 77 => [0, 1, 4]
  | 78 => [0, 1, 13, 4]
  | 79 => [0, 1, 16, 4]
  | 80 => [4, 0, 9, 5, 16, 2, 3]
  | 81 => [0, 7, 1, 12, 4]
  | 82 => [0, 7, 1, 15, 4]
  | 83 => [0, 9, 1, 5, 18, 6, 4]
  | 84 => [0, 9, 5, 17, 1, 26, 6, 4]
  | 85 => [0, 2, 1, 3]
  | 86 => [0, 1, 4]
  | 87 => [0, 1, 2, 3]
  | 88 => [0, 1, 4]
  | 89 => [0, 1, 2, 3]
  | 90 => [0, 3, 4, 8, 11, 2]
  | 92 => [0, 1, 4]
  | 93 => [0, 10, 2, 3]
  | 94 => [0, 1, 4]
  | 95 => [0, 4, 10, 5, 2, 18, 6, 27, 33, 35, 3, 48]
  | 96 => [0, 8, 7, 9, 1, 5, 16, 4]
  | 97 => [0, 8, 7, 9, 1, 5, 16, 4]
  | 98 => [0, 4, 16, 5, 6, 23, 7, 8, 45, 10, 9, 57, 59, 11, 75, 77, 12, 98, 2, 3]
  | 99 => [1, 160, 0, 171, 175, 177, 176, 6, 181, 5, 183, 7, 8, 9, 26, 33, 11, 43, 12, 51, 64, 10, 98, 13, 108, 124, 14, 15, 139, 16, 143, 156, 4]
  | 100 => [0, 2]
  | 101 => [0, 3, 10, 2]
  | 102 => [0, 2]
  | _ => []
noncomputable def inl : Nat → Option Func
  | 3 => some Tryd.f3
  | 4 => some Tryd.f4
  | 5 => some Tryd.f5
  | 6 => some Tryd.f6
  | 7 => some Tryd.f7
  | 8 => some Tryd.f8
  | 9 => some Tryd.f9
  | 10 => some Tryd.f10
  | 11 => some Tryd.f11
  | 12 => some Tryd.f12
  | 13 => some Tryd.f13
  | 14 => some Tryd.f14
  | 15 => some Tryd.f15
  | 16 => some Tryd.f16
  | 17 => some Tryd.f17
  | 18 => some Tryd.f18
  | 19 => some Tryd.f19
  | 20 => some Tryd.f20
  | 21 => some Tryd.f21
  | 22 => some Tryd.f22
  | 23 => some Tryd.f23
  | 24 => some Tryd.f24
  | 25 => some Tryd.f25
  | 26 => some Tryd.f26
  | 27 => some Tryd.f27
  | 28 => some Tryd.f28
  | 29 => some Tryd.f29
  | 30 => some Tryd.f30
  | 31 => some Tryd.f31
  | 32 => some Tryd.f32
  | 33 => some Tryd.f33
  | 34 => some Tryd.f34
  | 35 => some Tryd.f35
  | 36 => some Tryd.f36
  | 37 => some Tryd.f37
  | 38 => some Tryd.f38
  | 39 => some Tryd.f39
  | 40 => some Tryd.f40
  | 41 => some Tryd.f41
  | 42 => some Tryd.f42
  | 43 => some Tryd.f43
  | 44 => some Tryd.f44
  | 45 => some Tryd.f45
  | 46 => some Tryd.f46
  | 47 => some Tryd.f47
  | 48 => some Tryd.f48
  | 49 => some Tryd.f49
  | 50 => some Tryd.f50
  | 51 => some Tryd.f51
  | 52 => some Tryd.f52
  | 53 => some Tryd.f53
  | 54 => some Tryd.f54
  | 55 => some Tryd.f55
  | 56 => some Tryd.f56
  | 57 => some Tryd.f57
  | 58 => some Tryd.f58
  | 59 => some Tryd.f59
  | 60 => some Tryd.f60
  | 61 => some Tryd.f61
  | 62 => some Tryd.f62
  | 63 => some Tryd.f63
  | 64 => some Tryd.f64
  | 65 => some Tryd.f65
  | 66 => some Tryd.f66
  | 67 => some Tryd.f67
  | 68 => some Tryd.f68
  | 69 => some Tryd.f69
  | 70 => some Tryd.f70
  | 71 => some Tryd.f71
  | 72 => some Tryd.f72
  | 73 => some Tryd.f73
  | 74 => some Tryd.f74
  | 75 => some Tryd.f75
  | 76 => some Tryd.f76
  | 77 => some Tryd.f77
  | 78 => some Tryd.f78
  | 79 => some Tryd.f79
  | 80 => some Tryd.f80
  | 81 => some Tryd.f81
  | 82 => some Tryd.f82
  | 83 => some Tryd.f83
  | 84 => some Tryd.f84
  | 85 => some Tryd.f85
  | 86 => some Tryd.f86
  | 87 => some Tryd.f87
  | 88 => some Tryd.f88
  | 89 => some Tryd.f89
  | 90 => some Tryd.f90
  | 92 => some Tryd.f92
  | 93 => some Tryd.f93
  | 94 => some Tryd.f94
  | 95 => some Tryd.f95
  | 96 => some Tryd.f96
  | 97 => some Tryd.f97
  | 98 => some Tryd.f98
  | 99 => some Tryd.f99
  | 100 => some Tryd.f100
  | 101 => some Tryd.f101
  | 102 => some Tryd.f102
  | 125 => some Tryd.f125
  | _ => none
theorem tab_ok : tabB Tryd.prog tab = true := by kernel_rfl
theorem cmps_ok : cmpsB Tryd.prog tab = true := by kernel_rfl
theorem mixed : Tryd.prog.follows .mixedOrders = true := by kernel_rfl
theorem inl_ok : ∀ g fn, inl g = some fn → Tryd.prog.funcs[g]? = some fn ∧ (fn.name == "runtime.NumGoroutine") = false := by
  intro g fn h
  unfold inl at h
  split at h
  · cases h; exact ⟨Tryd.func3, by kernel_rfl⟩
  · cases h; exact ⟨Tryd.func4, by kernel_rfl⟩
  · cases h; exact ⟨Tryd.func5, by kernel_rfl⟩
  · cases h; exact ⟨Tryd.func6, by kernel_rfl⟩
  · cases h; exact ⟨Tryd.func7, by kernel_rfl⟩
  · cases h; exact ⟨Tryd.func8, by kernel_rfl⟩
  · cases h; exact ⟨Tryd.func9, by kernel_rfl⟩
  · cases h; exact ⟨Tryd.func10, by kernel_rfl⟩
  · cases h; exact ⟨Tryd.func11, by kernel_rfl⟩
  · cases h; exact ⟨Tryd.func12, by kernel_rfl⟩
  · cases h; exact ⟨Tryd.func13, by kernel_rfl⟩
  · cases h; exact ⟨Tryd.func14, by kernel_rfl⟩
  · cases h; exact ⟨Tryd.func15, by kernel_rfl⟩
  · cases h; exact ⟨Tryd.func16, by kernel_rfl⟩
  · cases h; exact ⟨Tryd.func17, by kernel_rfl⟩
  · cases h; exact ⟨Tryd.func18, by kernel_rfl⟩
  · cases h; exact ⟨Tryd.func19, by kernel_rfl⟩
  · cases h; exact ⟨Tryd.func20, by kernel_rfl⟩
  · cases h; exact ⟨Tryd.func21, by kernel_rfl⟩
  · cases h; exact ⟨Tryd.func22, by kernel_rfl⟩
  · cases h; exact ⟨Tryd.func23, by kernel_rfl⟩
  · cases h; exact ⟨Tryd.func24, by kernel_rfl⟩
  · cases h; exact ⟨Tryd.func25, by kernel_rfl⟩
  · cases h; exact ⟨Tryd.func26, by kernel_rfl⟩
  · cases h; exact ⟨Tryd.func27, by kernel_rfl⟩
  · cases h; exact ⟨Tryd.func28, by kernel_rfl⟩
  · cases h; exact ⟨Tryd.func29, by kernel_rfl⟩
  · cases h; exact ⟨Tryd.func30, by kernel_rfl⟩
  · cases h; exact ⟨Tryd.func31, by kernel_rfl⟩
  · cases h; exact ⟨Tryd.func32, by kernel_rfl⟩
  · cases h; exact ⟨Tryd.func33, by kernel_rfl⟩
  · cases h; exact ⟨Tryd.func34, by kernel_rfl⟩
  · cases h; exact ⟨Tryd.func35, by kernel_rfl⟩
  · cases h; exact ⟨Tryd.func36, by kernel_rfl⟩
  · cases h; exact ⟨Tryd.func37, by kernel_rfl⟩
  · cases h; exact ⟨Tryd.func38, by kernel_rfl⟩
  · cases h; exact ⟨Tryd.func39, by kernel_rfl⟩
  · cases h; exact ⟨Tryd.func40, by kernel_rfl⟩
  · cases h; exact ⟨Tryd.func41, by kernel_rfl⟩
  · cases h; exact ⟨Tryd.func42, by kernel_rfl⟩
  · cases h; exact ⟨Tryd.func43, by kernel_rfl⟩
  · cases h; exact ⟨Tryd.func44, by kernel_rfl⟩
  · cases h; exact ⟨Tryd.func45, by kernel_rfl⟩
  · cases h; exact ⟨Tryd.func46, by kernel_rfl⟩
  · cases h; exact ⟨Tryd.func47, by kernel_rfl⟩
  · cases h; exact ⟨Tryd.func48, by kernel_rfl⟩
  · cases h; exact ⟨Tryd.func49, by kernel_rfl⟩
  · cases h; exact ⟨Tryd.func50, by kernel_rfl⟩
  · cases h; exact ⟨Tryd.func51, by kernel_rfl⟩
  · cases h; exact ⟨Tryd.func52, by kernel_rfl⟩
  · cases h; exact ⟨Tryd.func53, by kernel_rfl⟩
  · cases h; exact ⟨Tryd.func54, by kernel_rfl⟩
  · cases h; exact ⟨Tryd.func55, by kernel_rfl⟩
  · cases h; exact ⟨Tryd.func56, by kernel_rfl⟩
  · cases h; exact ⟨Tryd.func57, by kernel_rfl⟩
  · cases h; exact ⟨Tryd.func58, by kernel_rfl⟩
  · cases h; exact ⟨Tryd.func59, by kernel_rfl⟩
  · cases h; exact ⟨Tryd.func60, by kernel_rfl⟩
  · cases h; exact ⟨Tryd.func61, by kernel_rfl⟩
  · cases h; exact ⟨Tryd.func62, by kernel_rfl⟩
  · cases h; exact ⟨Tryd.func63, by kernel_rfl⟩
  · cases h; exact ⟨Tryd.func64, by kernel_rfl⟩
  · cases h; exact ⟨Tryd.func65, by kernel_rfl⟩
  · cases h; exact ⟨Tryd.func66, by kernel_rfl⟩
  · cases h; exact ⟨Tryd.func67, by kernel_rfl⟩
  · cases h; exact ⟨Tryd.func68, by kernel_rfl⟩
  · cases h; exact ⟨Tryd.func69, by kernel_rfl⟩
  · cases h; exact ⟨Tryd.func70, by kernel_rfl⟩
  · cases h; exact ⟨Tryd.func71, by kernel_rfl⟩
  · cases h; exact ⟨Tryd.func72, by kernel_rfl⟩
  · cases h; exact ⟨Tryd.func73, by kernel_rfl⟩
  · cases h; exact ⟨Tryd.func74, by kernel_rfl⟩
  · cases h; exact ⟨Tryd.func75, by kernel_rfl⟩
  · cases h; exact ⟨Tryd.func76, by kernel_rfl⟩
  · cases h; exact ⟨Tryd.func77, by kernel_rfl⟩
  · cases h; exact ⟨Tryd.func78, by kernel_rfl⟩
  · cases h; exact ⟨Tryd.func79, by kernel_rfl⟩
  · cases h; exact ⟨Tryd.func80, by kernel_rfl⟩
  · cases h; exact ⟨Tryd.func81, by kernel_rfl⟩
  · cases h; exact ⟨Tryd.func82, by kernel_rfl⟩
  · cases h; exact ⟨Tryd.func83, by kernel_rfl⟩
  · cases h; exact ⟨Tryd.func84, by kernel_rfl⟩
  · cases h; exact ⟨Tryd.func85, by kernel_rfl⟩
  · cases h; exact ⟨Tryd.func86, by kernel_rfl⟩
  · cases h; exact ⟨Tryd.func87, by kernel_rfl⟩
  · cases h; exact ⟨Tryd.func88, by kernel_rfl⟩
  · cases h; exact ⟨Tryd.func89, by kernel_rfl⟩
  · cases h; exact ⟨Tryd.func90, by kernel_rfl⟩
  · cases h; exact ⟨Tryd.func92, by kernel_rfl⟩
  · cases h; exact ⟨Tryd.func93, by kernel_rfl⟩
  · cases h; exact ⟨Tryd.func94, by kernel_rfl⟩
  · cases h; exact ⟨Tryd.func95, by kernel_rfl⟩
  · cases h; exact ⟨Tryd.func96, by kernel_rfl⟩
  · cases h; exact ⟨Tryd.func97, by kernel_rfl⟩
  · cases h; exact ⟨Tryd.func98, by kernel_rfl⟩
  · cases h; exact ⟨Tryd.func99, by kernel_rfl⟩
  · cases h; exact ⟨Tryd.func100, by kernel_rfl⟩
  · cases h; exact ⟨Tryd.func101, by kernel_rfl⟩
  · cases h; exact ⟨Tryd.func102, by kernel_rfl⟩
  · cases h; exact ⟨Tryd.func125, by kernel_rfl⟩
  · cases h
end Go.Proofs.YtmjbedjnojcmfaaDoor.Ex

namespace Go.Proofs.YtmjbedjnojcmfaaDoor.Ex
set_option linter.unusedSectionVars false
set_option linter.unusedVariables false

inductive Sh where
  | undef | nil | int (k : IntKind) | bool | str | sl (e : Ty) | sln (e : Ty) | dat (t : Ty)
  | ptr (id off : Nat) | row (id : Nat) | eptr (id sz i off : Nat)
  | view (cs : List Sh) (off : Nat) | clo (f : Nat) (first caps : List Sh) | agg (cs : List Sh) | tup (vs : List Sh)

inductive BSh where
  | box (cs : List Sh)
  | row (e : Ty)

section
variable [RT]

mutual
def ShD : Sh → Type
  | .undef => Unit
  | .nil => Unit
  | .int _ => Int
  | .bool => Bool
  | .str => ByteArray
  | .sl e => List (D e)
  | .sln e => List (D e)
  | .dat t => D t
  | .ptr _ _ => Unit
  | .row _ => Unit
  | .eptr _ _ _ _ => Unit
  | .view cs _ => ShDs cs
  | .clo _ a b => ShDs a × ShDs b
  | .agg cs => ShDs cs
  | .tup cs => ShDs cs
def ShDs : List Sh → Type
  | [] => Unit
  | s :: r => ShD s × ShDs r
end

mutual
def mk : (s : Sh) → ShD s → AV
  | .undef, _ => .undef
  | .nil, _ => .nil
  | .int k, n => .int k n
  | .bool, b => .bool b
  | .str, s => .str s
  | .sl e, l => .sl e l
  | .sln e, l => .sl e l
  | .dat t, d => pack t (expand t d)
  | .ptr id off, _ => .ptr id off
  | .row id, _ => .row id
  | .eptr id sz i off, _ => .eptr id sz i off
  | .view cs off, d => .view (mks cs d) off
  | .clo f a b, d => .clo f (mks a d.1) (mks b d.2)
  | .agg cs, d => .agg (mks cs d)
  | .tup cs, d => .tup (mks cs d)
def mks : (s : List Sh) → ShDs s → List AV
  | [], _ => []
  | s :: r, d => mk s d.1 :: mks r d.2
end

def rdInt (k : IntKind) : AV → Option Int
  | .int k' n => if k = k' then some n else none
  | _ => none
def rdBool : AV → Option Bool
  | .bool b => some b
  | _ => none
def datCells (t : Ty) : AV → Option (List AV)
  | .agg cs => bif isSt t then some cs else none
  | .undef => none
  | .tup _ => none
  | v => bif isSt t then none else some [v]
def rdStr : AV → Option ByteArray
  | .str b => some b
  | _ => none
def rdSl (e : Ty) : AV → Option (List (D e))
  | .sl e' l => castL e' e l
  | _ => none
def rdSln (e : Ty) : AV → Option (List (D e))
  | .sl e' l => castL e' e l
  | .nil => some []
  | _ => none
def isUndef : AV → Bool
  | .undef => true
  | _ => false
def isNil : AV → Bool
  | .nil => true
  | _ => false
def isPtr (id off : Nat) : AV → Bool
  | .ptr i o => i.beq id && o.beq off
  | _ => false
def isRow (id : Nat) : AV → Bool
  | .row i => i.beq id
  | _ => false
def isEptr (id sz j off : Nat) : AV → Bool
  | .eptr i s k o => i.beq id && s.beq sz && k.beq j && o.beq off
  | _ => false
def fit (b : Bool) : Option Unit := bif b then some () else none
def viewOf (off : Nat) : AV → Option (List AV)
  | .view cs o => bif o.beq off then some cs else none
  | _ => none
def cloOf (f : Nat) : AV → Option (List AV × List AV)
  | .clo g a b => bif Nat.beq g f then some (a, b) else none
  | _ => none
def aggOf : AV → Option (List AV)
  | .agg cs => some cs
  | _ => none
def tupOf : AV → Option (List AV)
  | .tup cs => some cs
  | _ => none

mutual
def rd : (s : Sh) → AV → Option (ShD s)
  | .undef, v => fit (isUndef v)
  | .nil, v => fit (isNil v)
  | .int k, v => rdInt k v
  | .bool, v => rdBool v
  | .str, v => rdStr v
  | .sl e, v => rdSl e v
  | .sln e, v => rdSln e v
  | .dat t, v => (datCells t v).bind fun cs => collapse t cs
  | .ptr id off, v => fit (isPtr id off v)
  | .row id, v => fit (isRow id v)
  | .eptr id sz i off, v => fit (isEptr id sz i off v)
  | .view cs off, v => (viewOf off v).bind fun vs => rds cs vs
  | .clo f a b, v => (cloOf f v).bind fun p => (rds a p.1).bind fun x => (rds b p.2).map fun y => (x, y)
  | .agg cs, v => (aggOf v).bind fun vs => rds cs vs
  | .tup cs, v => (tupOf v).bind fun vs => rds cs vs
def rds : (s : List Sh) → List AV → Option (ShDs s)
  | [], vs => match vs with
    | [] => some ()
    | _ :: _ => none
  | s :: r, vs => match vs with
    | [] => none
    | v :: w => (rd s v).bind fun x => (rds r w).map fun y => (x, y)
end

mutual
/-- Without data that may be written in several ways. -/
def strict : Sh → Bool
  | .undef => true
  | .nil => true
  | .int _ => true
  | .bool => true
  | .str => true
  | .sl _ => true
  | .sln _ => false
  | .dat _ => false
  | .ptr _ _ => true
  | .row _ => true
  | .eptr _ _ _ _ => true
  | .view cs _ => stricts cs
  | .clo _ a b => stricts a && stricts b
  | .agg cs => stricts cs
  | .tup cs => stricts cs
def stricts : List Sh → Bool
  | [] => true
  | s :: r => strict s && stricts r
end

mutual
/-- Without names. -/
def free : Sh → Bool
  | .undef => true
  | .nil => true
  | .int _ => true
  | .bool => true
  | .str => true
  | .sl _ => true
  | .sln _ => true
  | .dat _ => true
  | .ptr _ _ => false
  | .row _ => false
  | .eptr _ _ _ _ => false
  | .view cs _ => frees cs
  | .clo _ a b => frees a && frees b
  | .agg cs => frees cs
  | .tup cs => frees cs
def frees : List Sh → Bool
  | [] => true
  | s :: r => free s && frees r
end

theorem fit_some {b : Bool} {u : Unit} (e : fit b = some u) : b = true := by
  cases b
  · cases e
  · rfl

mutual
theorem rd_some : ∀ (s : Sh) (v : AV) (d : ShD s), strict s = true → rd s v = some d → v = mk s d
  | .undef, v, d, _, e => by
    have := fit_some e
    cases v <;> first | rfl | cases this
  | .nil, v, d, _, e => by
    have := fit_some e
    cases v <;> first | rfl | cases this
  | .int k, v, d, _, e => by
    simp only [rd] at e
    cases v <;> simp only [rdInt] at e <;> first | cases e | skip
    split at e
    · rename_i h; subst h; cases e; rfl
    · cases e
  | .bool, v, d, _, e => by
    simp only [rd] at e
    cases v <;> simp only [rdBool] at e <;> first | (cases e; rfl) | cases e
  | .str, v, d, _, e => by
    simp only [rd] at e
    cases v <;> simp only [rdStr] at e <;> first | (cases e; rfl) | cases e
  | .sl t, v, d, _, e => by
    simp only [rd] at e
    cases v <;> simp only [rdSl] at e <;> first | cases e | skip
    obtain ⟨rfl, h⟩ := castL_eq e
    simp only at h
    subst h
    rfl
  | .dat t, v, d, h, e => nomatch h
  | .sln t, v, d, h, e => nomatch h
  | .ptr id off, v, d, _, e => by
    have := fit_some e
    cases v <;> simp only [isPtr] at this <;> first | cases this | skip
    simp only [Bool.and_eq_true] at this
    rw [nb_iff.1 this.1, nb_iff.1 this.2]; rfl
  | .row id, v, d, _, e => by
    have := fit_some e
    cases v <;> simp only [isRow] at this <;> first | cases this | skip
    rw [nb_iff.1 this]; rfl
  | .eptr id sz i off, v, d, _, e => by
    have := fit_some e
    cases v <;> simp only [isEptr] at this <;> first | cases this | skip
    simp only [Bool.and_eq_true] at this
    rw [nb_iff.1 this.1.1.1, nb_iff.1 this.1.1.2, nb_iff.1 this.1.2, nb_iff.1 this.2]; rfl
  | .view cs off, v, d, h, e => by
    simp only [rd] at e
    obtain ⟨vs, e1, e2⟩ := Option.bind_eq_some_iff.1 e
    cases v <;> simp only [viewOf] at e1 <;> first | cases e1 | skip
    rename_i c o
    cases ho : Nat.beq o off <;> rw [ho] at e1
    · cases e1
    · cases e1
      rw [nb_iff.1 ho, rds_some cs _ d h e2]; rfl
  | .clo f a b, v, d, h, e => by
    simp only [rd] at e
    obtain ⟨p, e1, e2⟩ := Option.bind_eq_some_iff.1 e
    obtain ⟨x, e3, e4⟩ := Option.bind_eq_some_iff.1 e2
    obtain ⟨y, e5, e6⟩ := Option.map_eq_some_iff.1 e4
    simp only [strict, Bool.and_eq_true] at h
    cases v <;> simp only [cloOf] at e1 <;> first | cases e1 | skip
    rename_i g c1 c2
    cases ho : Nat.beq g f <;> rw [ho] at e1
    · cases e1
    · cases e1
      subst e6
      simp only at e3 e5
      rw [nb_iff.1 ho, rds_some a _ x h.1 e3, rds_some b _ y h.2 e5]; rfl
  | .agg cs, v, d, h, e => by
    simp only [rd] at e
    obtain ⟨vs, e1, e2⟩ := Option.bind_eq_some_iff.1 e
    cases v <;> simp only [aggOf] at e1 <;> first | cases e1 | skip
    rw [rds_some cs _ d h e2]; rfl
  | .tup cs, v, d, h, e => by
    simp only [rd] at e
    obtain ⟨vs, e1, e2⟩ := Option.bind_eq_some_iff.1 e
    cases v <;> simp only [tupOf] at e1 <;> first | cases e1 | skip
    rw [rds_some cs _ d h e2]; rfl
theorem rds_some : ∀ (s : List Sh) (vs : List AV) (d : ShDs s), stricts s = true → rds s vs = some d → vs = mks s d
  | [], vs, d, _, e => by
    cases vs
    · rfl
    · cases e
  | s :: r, vs, d, h, e => by
    simp only [stricts, Bool.and_eq_true] at h
    cases vs with
    | nil => cases e
    | cons v w =>
      simp only [rds] at e
      obtain ⟨x, e1, e2⟩ := Option.bind_eq_some_iff.1 e
      obtain ⟨y, e3, e4⟩ := Option.map_eq_some_iff.1 e2
      subst e4
      rw [rd_some s v x h.1 e1, rds_some r w y h.2 e3]; rfl
end

theorem datCells_cells {t : Ty} {v : AV} {cs : List AV} (e : datCells t v = some cs) : cellsOf v = some cs := by
  unfold datCells at e
  split at e
  · cases h : isSt t <;> rw [h] at e <;> cases e; rfl
  · cases e
  · cases e
  · rename_i v h1 h2 h3
    cases h : isSt t <;> rw [h] at e <;> cases e
    unfold cellsOf
    split <;> simp_all
theorem dat_rep {hdr : Nat → Value} {S : Stb} {t : Ty} {v : AV} {u : Value} {d : D t} (h : VRep hdr S v u) (e : (datCells t v).bind (fun cs => collapse t cs) = some d) : VRep hdr S (pack t (expand t d)) u := by
  obtain ⟨cs, e1, e2⟩ := Option.bind_eq_some_iff.1 e
  have hc := cellsOf_rep h (datCells_cells e1)
  have hd := collapse_rep hc e2
  have hx := pack_rep t (hd.expand (hdr := hdr))
  suffices packV t u.cells.toList = u by rwa [this] at hx
  cases h with
  | agg cs vs hr =>
    cases q : isSt t <;> simp only [datCells, q] at e1
    · cases e1
    · simp [packV, q, Value.cells]
  | undef => cases e1
  | tup => cases e1
  | sl e l v h =>
    cases q : isSt t <;> simp only [datCells, q] at e1
    · cases h <;> simp [packV, q, Value.cells]
    · cases e1
  | _ =>
    cases q : isSt t <;> simp only [datCells, q] at e1
    · simp [packV, q, Value.cells]
    · cases e1

mutual
theorem rd_rep {hdr : Nat → Value} {S : Stb} : ∀ (s : Sh) (v : AV) (d : ShD s) (u : Value), rd s v = some d → VRep hdr S v u → VRep hdr S (mk s d) u
  | .dat t, v, d, u, e, h => dat_rep h e
  | .sln t, v, d, u, e, h => by
    simp only [rd] at e
    cases v <;> simp only [rdSln] at e <;> first | cases e | skip
    · cases h with | nil ao => exact .sl _ _ _ (.slNil _ ao 0)
    · obtain ⟨rfl, hh⟩ := castL_eq e
      simp only at hh
      subst hh
      exact h
  | .undef, v, d, u, e, h => by have := rd_some .undef v d rfl e; rwa [← this]
  | .nil, v, d, u, e, h => by have := rd_some .nil v d rfl e; rwa [← this]
  | .int k, v, d, u, e, h => by have := rd_some (.int k) v d rfl e; rwa [← this]
  | .bool, v, d, u, e, h => by have := rd_some .bool v d rfl e; rwa [← this]
  | .str, v, d, u, e, h => by have := rd_some .str v d rfl e; rwa [← this]
  | .sl t, v, d, u, e, h => by have := rd_some (.sl t) v d rfl e; rwa [← this]
  | .ptr a b, v, d, u, e, h => by have := rd_some (.ptr a b) v d rfl e; rwa [← this]
  | .row a, v, d, u, e, h => by have := rd_some (.row a) v d rfl e; rwa [← this]
  | .eptr a b c g, v, d, u, e, h => by have := rd_some (.eptr a b c g) v d rfl e; rwa [← this]
  | .view cs off, v, d, u, e, h => by
    simp only [rd] at e
    obtain ⟨vs, e1, e2⟩ := Option.bind_eq_some_iff.1 e
    cases v <;> simp only [viewOf] at e1 <;> first | cases e1 | skip
    rename_i c o
    cases ho : Nat.beq o off <;> rw [ho] at e1
    · cases e1
    · cases e1
      obtain rfl := nb_iff.1 ho
      cases h with | view _ us _ b o2 cells hS hc hr => exact .view _ us _ b o2 cells hS hc (rds_rep cs _ d us e2 hr)
  | .clo f a b, v, d, u, e, h => by
    simp only [rd] at e
    obtain ⟨p, e1, e2⟩ := Option.bind_eq_some_iff.1 e
    obtain ⟨x, e3, e4⟩ := Option.bind_eq_some_iff.1 e2
    obtain ⟨y, e5, e6⟩ := Option.map_eq_some_iff.1 e4
    cases v <;> simp only [cloOf] at e1 <;> first | cases e1 | skip
    rename_i g c1 c2
    cases ho : Nat.beq g f <;> rw [ho] at e1
    · cases e1
    · cases e1
      subst e6
      obtain rfl := nb_iff.1 ho
      cases h with | clo _ _ _ fs cs h1 h2 => exact .clo _ _ _ fs cs (rds_rep a _ x fs e3 h1) (rds_rep b _ y cs e5 h2)
  | .agg cs, v, d, u, e, h => by
    simp only [rd] at e
    obtain ⟨vs, e1, e2⟩ := Option.bind_eq_some_iff.1 e
    cases v <;> simp only [aggOf] at e1 <;> first | cases e1 | skip
    cases h with | agg _ us hr => exact .agg _ us (rds_rep cs _ d us e2 hr)
  | .tup cs, v, d, u, e, h => by
    simp only [rd] at e
    obtain ⟨vs, e1, e2⟩ := Option.bind_eq_some_iff.1 e
    cases v <;> simp only [tupOf] at e1 <;> first | cases e1 | skip
    cases h with | tup _ us hr => exact .tup _ us (rds_rep cs _ d us e2 hr)
theorem rds_rep {hdr : Nat → Value} {S : Stb} : ∀ (s : List Sh) (vs : List AV) (d : ShDs s) (us : List Value), rds s vs = some d → VReps hdr S vs us → VReps hdr S (mks s d) us
  | [], vs, d, us, e, h => by
    cases vs
    · exact h
    · cases e
  | s :: r, vs, d, us, e, h => by
    cases h with
    | nil => cases e
    | cons v u w us h1 h2 =>
      simp only [rds] at e
      obtain ⟨x, e1, e2⟩ := Option.bind_eq_some_iff.1 e
      obtain ⟨y, e3, e4⟩ := Option.map_eq_some_iff.1 e2
      subst e4
      exact .cons _ _ _ _ (rd_rep s v x u e1 h1) (rds_rep r w y us e3 h2)
end

mutual
theorem mk_ids : ∀ (s : Sh) (d : ShD s), free s = true → (mk s d).ids = []
  | .dat t, d, _ => pack_ids0 t d
  | .sln t, d, _ => rfl
  | .undef, d, _ => rfl
  | .nil, d, _ => rfl
  | .int k, d, _ => rfl
  | .bool, d, _ => rfl
  | .str, d, _ => rfl
  | .sl t, d, _ => rfl
  | .ptr a b, d, h => nomatch h
  | .row a, d, h => nomatch h
  | .eptr a b c g, d, h => nomatch h
  | .view cs off, d, h => by simp only [mk, AV.ids]; exact mks_ids cs d h
  | .clo f a b, d, h => by
    simp only [free, Bool.and_eq_true] at h
    simp only [mk, AV.ids, mks_ids a d.1 h.1, mks_ids b d.2 h.2]; rfl
  | .agg cs, d, h => by simp only [mk, AV.ids]; exact mks_ids cs d h
  | .tup cs, d, h => by simp only [mk, AV.ids]; exact mks_ids cs d h
theorem mks_ids : ∀ (s : List Sh) (d : ShDs s), frees s = true → AV.idsL (mks s d) = []
  | [], d, _ => rfl
  | s :: r, d, h => by
    simp only [frees, Bool.and_eq_true] at h
    simp only [mks, AV.idsL, mk_ids s d.1 h.1, mks_ids r d.2 h.2]; rfl
end

theorem take1_ids : ∀ (t : Ty) (cs : List AV) (x : D t × List AV), take1 t cs = some x → AV.idsL cs = AV.idsL x.2
  | .int k, cs, x, e => by
    simp only [take1, tInt] at e
    split at e
    · split at e
      · cases e; rfl
      · cases e
    · cases e
  | .bool, cs, x, e => by
    simp only [take1, tBool] at e
    split at e
    · cases e; rfl
    · cases e
  | .str, cs, x, e => by
    simp only [take1, tStr] at e
    split at e
    · cases e; rfl
    · cases e
  | .sl t, cs, x, e => by
    simp only [take1, tSl] at e
    split at e
    · obtain ⟨y, _, e2⟩ := Option.bind_eq_some_iff.1 e
      cases e2; rfl
    · cases e; rfl
    · cases e
  | .mu n, cs, x, e => nomatch e
  | .st f, cs, x, e => take1_ids f cs x e
  | .pair a b, cs, x, e => by
    simp only [take1] at e
    obtain ⟨y, e1, e2⟩ := Option.bind_eq_some_iff.1 e
    obtain ⟨z, e3, e4⟩ := Option.bind_eq_some_iff.1 e2
    cases e4
    exact (take1_ids a cs y e1).trans (take1_ids b y.2 z e3)
theorem collapse_ids {t : Ty} {cs : List AV} {d : D t} (e : collapse t cs = some d) : AV.idsL cs = [] := by
  unfold collapse at e
  split at e
  · rename_i d' h
    exact take1_ids t cs _ h
  · cases e
theorem dat_ids {t : Ty} {v : AV} {d : D t} (e : (datCells t v).bind (fun cs => collapse t cs) = some d) : v.ids = [] := by
  obtain ⟨cs, e1, e2⟩ := Option.bind_eq_some_iff.1 e
  have hc : AV.idsL cs = [] := collapse_ids e2
  unfold datCells at e1
  split at e1
  · cases h : isSt t <;> rw [h] at e1 <;> cases e1; simpa [AV.ids] using hc
  · cases e1
  · cases e1
  · cases h : isSt t <;> rw [h] at e1 <;> cases e1
    simpa [AV.idsL] using hc

mutual
theorem rd_ids : ∀ (s : Sh) (v : AV) (d : ShD s), free s = true → rd s v = some d → v.ids = []
  | .dat t, v, d, _, e => dat_ids e
  | .sln t, v, d, _, e => by
    simp only [rd] at e
    cases v <;> simp only [rdSln] at e <;> first | rfl | (cases e; rfl) | cases e
  | .undef, v, d, _, e => by have := rd_some .undef v d rfl e; rw [this]; rfl
  | .nil, v, d, _, e => by have := rd_some .nil v d rfl e; rw [this]; rfl
  | .int k, v, d, _, e => by have := rd_some (.int k) v d rfl e; rw [this]; rfl
  | .bool, v, d, _, e => by have := rd_some .bool v d rfl e; rw [this]; rfl
  | .str, v, d, _, e => by have := rd_some .str v d rfl e; rw [this]; rfl
  | .sl t, v, d, _, e => by have := rd_some (.sl t) v d rfl e; rw [this]; rfl
  | .ptr a b, v, d, h, e => nomatch h
  | .row a, v, d, h, e => nomatch h
  | .eptr a b c g, v, d, h, e => nomatch h
  | .view cs off, v, d, h, e => by
    simp only [rd] at e
    obtain ⟨vs, e1, e2⟩ := Option.bind_eq_some_iff.1 e
    cases v <;> simp only [viewOf] at e1 <;> first | cases e1 | skip
    rename_i c o
    cases ho : Nat.beq o off <;> rw [ho] at e1
    · cases e1
    · cases e1
      simpa [AV.ids] using rds_ids cs _ d h e2
  | .clo f a b, v, d, h, e => by
    simp only [rd] at e
    obtain ⟨p, e1, e2⟩ := Option.bind_eq_some_iff.1 e
    obtain ⟨x, e3, e4⟩ := Option.bind_eq_some_iff.1 e2
    obtain ⟨y, e5, e6⟩ := Option.map_eq_some_iff.1 e4
    simp only [free, Bool.and_eq_true] at h
    cases v <;> simp only [cloOf] at e1 <;> first | cases e1 | skip
    rename_i g c1 c2
    cases ho : Nat.beq g f <;> rw [ho] at e1
    · cases e1
    · cases e1
      simp only at e3 e5
      simp only [AV.ids, rds_ids a _ x h.1 e3, rds_ids b _ y h.2 e5]; rfl
  | .agg cs, v, d, h, e => by
    simp only [rd] at e
    obtain ⟨vs, e1, e2⟩ := Option.bind_eq_some_iff.1 e
    cases v <;> simp only [aggOf] at e1 <;> first | cases e1 | skip
    simpa [AV.ids] using rds_ids cs _ d h e2
  | .tup cs, v, d, h, e => by
    simp only [rd] at e
    obtain ⟨vs, e1, e2⟩ := Option.bind_eq_some_iff.1 e
    cases v <;> simp only [tupOf] at e1 <;> first | cases e1 | skip
    simpa [AV.ids] using rds_ids cs _ d h e2
theorem rds_ids : ∀ (s : List Sh) (vs : List AV) (d : ShDs s), frees s = true → rds s vs = some d → AV.idsL vs = []
  | [], vs, d, _, e => by
    cases vs
    · rfl
    · cases e
  | s :: r, vs, d, h, e => by
    simp only [frees, Bool.and_eq_true] at h
    cases vs with
    | nil => cases e
    | cons v w =>
      simp only [rds] at e
      obtain ⟨x, e1, e2⟩ := Option.bind_eq_some_iff.1 e
      obtain ⟨y, e3, e4⟩ := Option.map_eq_some_iff.1 e2
      simp only [AV.idsL, rd_ids s v x h.1 e1, rds_ids r w y h.2 e3]; rfl
end
end
end Go.Proofs.YtmjbedjnojcmfaaDoor.Ex

namespace Go.Proofs.YtmjbedjnojcmfaaDoor.Ex
set_option linter.unusedSectionVars false
set_option linter.unusedVariables false
section
variable [RT] {P : Program} {cx : Ctx} {cal : FuncId → List AV → Prog AV}

def BShD : BSh → Type
  | .box cs => ShDs cs
  | .row e => List (D e)
def mkB : (s : BSh) → BShD s → Blk
  | .box cs, d => .box (mks cs d)
  | .row e, d => .row e d
def rdRow (e : Ty) : Blk → Option (List (D e))
  | .row e' l => castL e' e l
  | _ => none
def rdBox : Blk → Option (List AV)
  | .box cs => some cs
  | _ => none
def rdB : (s : BSh) → Blk → Option (BShD s)
  | .box cs, b => (rdBox b).bind fun vs => rds cs vs
  | .row e, b => rdRow e b
def TShD : List (Nat × Sh) → Type
  | [] => Unit
  | s :: r => ShD s.2 × TShD r
def mkT : (s : List (Nat × Sh)) → TShD s → Tm
  | [], _ => []
  | s :: r, d => (s.1, mk s.2 d.1) :: mkT r d.2
def rdT : (s : List (Nat × Sh)) → Tm → Option (TShD s)
  | [], T => match T with
    | [] => some ()
    | _ :: _ => none
  | s :: r, T => match T with
    | [] => none
    | x :: T => bif x.1.beq s.1 then (rd s.2 x.2).bind fun a => (rdT r T).map fun b => (a, b) else none
def HShD : List (Nat × BSh) → Type
  | [] => Unit
  | s :: r => BShD s.2 × HShD r
def mkH : (s : List (Nat × BSh)) → HShD s → List (Nat × Blk)
  | [], _ => []
  | s :: r, d => (s.1, mkB s.2 d.1) :: mkH r d.2
def rdH : (s : List (Nat × BSh)) → List (Nat × Blk) → Option (HShD s)
  | [], T => match T with
    | [] => some ()
    | _ :: _ => none
  | s :: r, T => match T with
    | [] => none
    | x :: T => bif x.1.beq s.1 then (rdB s.2 x.2).bind fun a => (rdH r T).map fun b => (a, b) else none

structure StS where
  T : List (Nat × Sh)
  H : List (Nat × BSh)
  c : Nat
def StD (s : StS) : Type := TShD s.T × HShD s.H
def rdS (s : StS) (T : Tm) (h : Hp) : Option (StD s) := (rdT s.T T).bind fun a => (rdH s.H h.blks).bind fun b => bif h.c.beq s.c then some (a, b) else none
def sT (s : StS) (d : StD s) : Tm := mkT s.T d.1
def sH (s : StS) (d : StD s) : Hp := ⟨mkH s.H d.2, s.c⟩
def strictT : List (Nat × Sh) → Bool
  | [] => true
  | s :: r => strict s.2 && strictT r
def strictB : BSh → Bool
  | .box cs => stricts cs
  | .row _ => true
def strictH : List (Nat × BSh) → Bool
  | [] => true
  | s :: r => strictB s.2 && strictH r
def strictS (s : StS) : Bool := strictT s.T && strictH s.H

theorem rdB_some {s : BSh} {b : Blk} {d : BShD s} (hs : strictB s = true) (e : rdB s b = some d) : b = mkB s d := by
  cases s with
  | box cs =>
    simp only [rdB] at e
    obtain ⟨vs, e1, e2⟩ := Option.bind_eq_some_iff.1 e
    cases b <;> simp only [rdBox] at e1 <;> cases e1
    rw [rds_some cs _ d hs e2]; rfl
  | row t =>
    simp only [rdB] at e
    cases b <;> simp only [rdRow] at e <;> first | cases e | skip
    obtain ⟨rfl, h⟩ := castL_eq e
    simp only at h
    subst h
    rfl
theorem rdT_some : ∀ {s : List (Nat × Sh)} {T : Tm} {d : TShD s}, strictT s = true → rdT s T = some d → T = mkT s d
  | [], T, d, _, e => by
    cases T
    · rfl
    · cases e
  | s :: r, T, d, h, e => by
    simp only [strictT, Bool.and_eq_true] at h
    cases T with
    | nil => cases e
    | cons x T =>
      simp only [rdT] at e
      cases hb : Nat.beq x.1 s.1 <;> rw [hb] at e
      · cases e
      · obtain ⟨a, e1, e2⟩ := Option.bind_eq_some_iff.1 e
        obtain ⟨b, e3, e4⟩ := Option.map_eq_some_iff.1 e2
        subst e4
        obtain ⟨n, v⟩ := x
        simp only at hb e1
        rw [nb_iff.1 hb, rd_some _ _ a h.1 e1, rdT_some h.2 e3]; rfl
theorem rdH_some : ∀ {s : List (Nat × BSh)} {T : List (Nat × Blk)} {d : HShD s}, strictH s = true → rdH s T = some d → T = mkH s d
  | [], T, d, _, e => by
    cases T
    · rfl
    · cases e
  | s :: r, T, d, h, e => by
    simp only [strictH, Bool.and_eq_true] at h
    cases T with
    | nil => cases e
    | cons x T =>
      simp only [rdH] at e
      cases hb : Nat.beq x.1 s.1 <;> rw [hb] at e
      · cases e
      · obtain ⟨a, e1, e2⟩ := Option.bind_eq_some_iff.1 e
        obtain ⟨b, e3, e4⟩ := Option.map_eq_some_iff.1 e2
        subst e4
        obtain ⟨n, v⟩ := x
        simp only at hb e1
        rw [nb_iff.1 hb, rdB_some h.1 e1, rdH_some h.2 e3]; rfl
theorem rdS_some {s : StS} {T : Tm} {h : Hp} {d : StD s} (hs : strictS s = true) (e : rdS s T h = some d) : T = sT s d ∧ h = sH s d := by
  unfold rdS at e
  simp only [strictS, Bool.and_eq_true] at hs
  obtain ⟨a, e1, e2⟩ := Option.bind_eq_some_iff.1 e
  obtain ⟨b, e3, e4⟩ := Option.bind_eq_some_iff.1 e2
  cases hb : Nat.beq h.c s.c <;> rw [hb] at e4
  · cases e4
  · cases e4
    refine ⟨rdT_some hs.1 e1, ?_⟩
    obtain ⟨bs, c⟩ := h
    simp only at e3 hb
    rw [rdH_some hs.2 e3, nb_iff.1 hb]; rfl

def iterK (base : Nat) (keep : Nat → List Nat) (f : Tm → Prog (Nat × Tm)) : Nat → Tm → Prog (Nat × Tm)
  | 0, _ => .fail
  | n + 1, T => (f T).bind fun e => .norm base (keep e.1) e.2 fun T' => match e.1 with
    | 0 => iterK base keep f n T'
    | _ => .ret (e.1, T')

theorem iterK_sound (hcx : TabOk P cx.tab) (hcmp : CmpsOk P cx.tab) (hcal : CalOk P cal) (hmd : P.follows .mixedOrders = true) {id n : Nat} {kp : List Nat} {keep : Nat → List Nat} {x : Code} {b : Nat}
    (hl : ∀ q ∈ loopsOf b x, ∀ p, cx.lps id q.1 = some p → SoundC P n (.loop q.2) p) (m : Nat) :
    SoundC P n (.loop x) fun base T => .norm base (keep 0) T fun T1 => iterK base keep (evC cx cal ⟨id, n, kp, base⟩ b x) m T1 := by
  intro tr ok hdr0 S0 h0 w0 a0 h T hdr S a w f e T' h' f' Q l hn ev hO hK
  obtain ⟨T1, h1, hdr1, rfl, l1, ev0⟩ := l.normed ev
  refine wp_loop_rounds m ?_
  clear l ev
  have ev := ev0
  clear ev0
  induction m generalizing h1 T1 hdr1 S a w f with
  | zero => exact (ex_fail ev).elim
  | succ m ih =>
    simp only [iterK] at ev
    obtain ⟨⟨e2, T2⟩, h2, f2, ev1, ev2⟩ := ex_bind_some ev
    rw [rounds_succ]
    refine evC_sound (h0 := h0) (a0 := a0) hcx hcmp hcal hmd (fx := ⟨id, n, kp, h0.c⟩) x b hl h1 T1 hdr1 S a w f e2 T2 h2 f2 _ rfl hn l1 ev1 (fun id k => (hO id k).less fun ht => by cases ht) fun hdr3 S3 a3 w3 l3 => ?_
    obtain ⟨T4, h4, hdr4, _, l4, e4⟩ := l3.normed ev2
    match e2, e4 with
    | 0, e4 => exact ih S3 a3 w3 f2 T4 h4 hdr4 l4 e4
    | 1, e4 => cases ex_ret e4; exact hK _ _ _ _ l4
    | k + 2, e4 => cases ex_ret e4; exact hK _ _ _ _ l4

def roundK {R : Type} (base : Nat) (keep : Nat → List Nat) (f : Tm → Prog (Nat × Tm)) (T : Tm) (h : Hp) (K : Nat → Tm → Hp → Option R) : Option R :=
  run ((f T).bind fun e => .norm base (keep e.1) e.2 fun T' => .ret (e.1, T')) false h ⟨[], []⟩ fun r h _ => K r.1 r.2 h

theorem roundK_eq {R : Type} (base : Nat) (keep : Nat → List Nat) (f : Tm → Prog (Nat × Tm)) (T : Tm) (h : Hp) (K : Nat → Tm → Hp → Option R) :
    roundK base keep f T h K = (roundK base keep f T h fun c T h => some (c, T, h)).bind fun r => K r.1 r.2.1 r.2.2 := by
  unfold roundK
  rw [run_ex]
  conv => rhs; rw [run_ex]
  rw [Option.bind_assoc]
  rfl

theorem iterK_go (base : Nat) (keep : Nat → List Nat) (f : Tm → Prog (Nat × Tm)) (n : Nat) (T : Tm) (h : Hp) :
    go (iterK base keep f (n + 1) T) h = roundK base keep f T h fun e T' h' => match e with
      | 0 => go (iterK base keep f n T') h'
      | _ => some ((e, T'), h') := by
  unfold go roundK
  rw [iterK, run_bind, run_bind]
  congr 1
  funext e h1 f1
  simp only [run]
  cases (nodupN (normOrder base (keep e.1) e.2 h1.blks) && leB base h1.c)
  · rfl
  · simp only [cond_false, cond_true]
    obtain ⟨e1, T1⟩ := e
    cases e1 with
    | zero => exact run_foot _ _ _ _ (fun a h => some (a, h))
    | succ n => rfl

theorem loopK_sound (hcx : TabOk P cx.tab) (hcmp : CmpsOk P cx.tab) (hcal : CalOk P cal) (hmd : P.follows .mixedOrders = true) {id n : Nat} {kp : List Nat} {keep : Nat → List Nat} {x : Code} {b : Nat}
    (hl : ∀ q ∈ loopsOf b x, ∀ p, cx.lps id q.1 = some p → SoundC P n (.loop q.2) p) {q : Nat → Tm → Prog (Nat × Tm)}
    (hG : ∀ base T h r h', go (q base T) h = some (r, h') → ∃ m, go (iterK base keep (evC cx cal ⟨id, n, kp, base⟩ b x) m T) h = some (r, h')) :
    SoundC P n (.loop x) fun base T => .norm base (keep 0) T (q base) := by
  refine SoundC.weaken fun base T tr h f r h' f' e => ?_
  obtain ⟨rfl, hn, e1⟩ := ex_norm e
  have e2 := e1
  unfold ex at e2
  rw [run_ex] at e2
  have e3 : go (q base (keepT (renOf base (normOrder base (keep 0) T h.blks)) T (keep 0))) ⟨extB base (renOf base (normOrder base (keep 0) T h.blks)) h.blks ++ newB (renOf base (normOrder base (keep 0) T h.blks)) h.blks base (normOrder base (keep 0) T h.blks), base + (normOrder base (keep 0) T h.blks).length⟩ = some (r, h') := by
    unfold go
    rw [run_foot _ _ ⟨[], []⟩ f (fun a h => some (a, h)), run_ex, e1]; rfl
  obtain ⟨m, e4⟩ := hG _ _ _ _ _ e3
  obtain ⟨f2, e5⟩ := go_ex e4 f
  refine ⟨_, f2, iterK_sound (keep := keep) (kp := kp) hcx hcmp hcal hmd hl m, ?_⟩
  unfold ex at e ⊢
  simp only [run, cond_false] at e ⊢
  cases q : (nodupN (normOrder base (keep 0) T h.blks) && leB base h.c) <;> rw [q] at e
  · cases e
  · simp only [cond_true]
    exact e5

def iterO {X Y : Type} (step : X → Option (X ⊕ Y)) : Nat → X → Option Y
  | 0, _ => none
  | n + 1, x => match step x with
    | some (.inl x') => iterO step n x'
    | some (.inr y) => some y
    | none => none

def rdO {X Y : Type} (get : Tm → Hp → Option X) (getY : Nat → Tm → Hp → Option Y) (c : Nat) (T : Tm) (h : Hp) : Option (X ⊕ Y) :=
  bif c.beq 0 then (get T h).map .inl else (getY c T h).map .inr

theorem iterO_go {X Y : Type} {base : Nat} {keep : Nat → List Nat} {F : Tm → Prog (Nat × Tm)} {putT : X → Tm} {putH : X → Hp} {get : Tm → Hp → Option X} {getY : Nat → Tm → Hp → Option Y} {outY : Y → (Nat × Tm) × Hp}
    (hget : ∀ T h x, get T h = some x → T = putT x ∧ h = putH x) (hY : ∀ c T h y, getY c T h = some y → ((c, T), h) = outY y) {step : X → Option (X ⊕ Y)}
    (hs : ∀ x, roundK base keep F (putT x) (putH x) (rdO get getY) = step x) : ∀ (n : Nat) (x : X) (y : Y), iterO step n x = some y → go (iterK base keep F n (putT x)) (putH x) = some (outY y)
  | 0, x, y, e => nomatch e
  | n + 1, x, y, e => by
    rw [iterK_go, roundK_eq]
    have h1 := hs x
    rw [roundK_eq] at h1
    rw [iterO] at e
    cases hr : roundK base keep F (putT x) (putH x) fun c T h => some (c, T, h) with
    | none => rw [hr] at h1; rw [← h1] at e; cases e
    | some r =>
      obtain ⟨c, T, h⟩ := r
      rw [hr] at h1
      simp only [Option.bind_some] at h1 ⊢
      cases c with
      | zero =>
        simp only [rdO, show Nat.beq 0 0 = true from rfl, cond_true] at h1
        cases hg : get T h with
        | none => rw [hg] at h1; rw [← h1] at e; cases e
        | some x' =>
          rw [hg] at h1
          rw [← h1] at e
          obtain ⟨rfl, rfl⟩ := hget T h x' hg
          exact iterO_go hget hY hs n x' y e
      | succ c =>
        simp only [rdO, show Nat.beq (c + 1) 0 = false from rfl, cond_false] at h1
        cases hg : getY (c + 1) T h with
        | none => rw [hg] at h1; rw [← h1] at e; cases e
        | some y' =>
          rw [hg] at h1
          rw [← h1] at e
          cases e
          rw [← hY _ _ _ _ hg]; rfl

def getE {Y : Type} (code : Nat) (s : StS) (flat : StD s → Y) (c : Nat) (T : Tm) (h : Hp) : Option Y := bif c.beq code then (rdS s T h).map flat else none
def getOr {A B : Type} (g1 : Nat → Tm → Hp → Option A) (g2 : Nat → Tm → Hp → Option B) (c : Nat) (T : Tm) (h : Hp) : Option (A ⊕ B) := match g1 c T h with
  | some a => some (.inl a)
  | none => (g2 c T h).map .inr
def outE {Y : Type} (code : Nat) (s : StS) (un : Y → StD s) (y : Y) : (Nat × Tm) × Hp := ((code, sT s (un y)), sH s (un y))
def altE {Y : Type} (code : Nat) (s : StS) (un : Y → StD s) (y : Y) : Prog (Nat × Tm) := .glob (fun _ => some (outE code s un y)) .ret
theorem getE_ok {Y : Type} {code : Nat} {s : StS} {flat : StD s → Y} {un : Y → StD s} (hs : strictS s = true) (hu : ∀ d, un (flat d) = d) (c : Nat) (T : Tm) (h : Hp) (y : Y) (e : getE code s flat c T h = some y) : ((c, T), h) = outE code s un y := by
  unfold getE at e
  cases hb : Nat.beq c code <;> rw [hb] at e
  · cases e
  · obtain ⟨d, e1, rfl⟩ := Option.map_eq_some_iff.1 e
    obtain ⟨rfl, rfl⟩ := rdS_some hs e1
    unfold outE
    rw [hu, nb_iff.1 hb]
theorem getOr_ok {A B : Type} {g1 : Nat → Tm → Hp → Option A} {g2 : Nat → Tm → Hp → Option B} {o1 : A → (Nat × Tm) × Hp} {o2 : B → (Nat × Tm) × Hp} (h1 : ∀ c T h y, g1 c T h = some y → ((c, T), h) = o1 y) (h2 : ∀ c T h y, g2 c T h = some y → ((c, T), h) = o2 y)
    (c : Nat) (T : Tm) (h : Hp) (y : A ⊕ B) (e : getOr g1 g2 c T h = some y) : ((c, T), h) = Sum.elim o1 o2 y := by
  unfold getOr at e
  split at e
  · rename_i a ha; cases e; exact h1 _ _ _ _ ha
  · obtain ⟨b, e1, rfl⟩ := Option.map_eq_some_iff.1 e
    exact h2 _ _ _ _ e1
def AltOk {Y : Type} (alt : Y → Prog (Nat × Tm)) (out : Y → (Nat × Tm) × Hp) : Prop := ∀ y h r, go (alt y) h = some r → r = out y
theorem altE_ok {Y : Type} (code : Nat) (s : StS) (un : Y → StD s) : AltOk (altE code s un) (outE code s un) := by
  intro y h r e
  unfold go altE at e
  simp only [run, cond_false, Option.bind_some] at e
  exact (Option.some.inj e).symm
theorem altOr_ok {A B : Type} {a1 : A → Prog (Nat × Tm)} {a2 : B → Prog (Nat × Tm)} {o1 : A → (Nat × Tm) × Hp} {o2 : B → (Nat × Tm) × Hp} (h1 : AltOk a1 o1) (h2 : AltOk a2 o2) : AltOk (fun y => .alt y a1 a2) (Sum.elim o1 o2) := by
  intro y h r e
  unfold go at e
  simp only [run] at e
  cases y with
  | inl a => exact h1 a h r e
  | inr a => exact h2 a h r e

def varP {X Y : Type} (base0 : Nat) (get : Tm → Hp → Option X) (L : X → Option Y) (alt : Y → Prog (Nat × Tm)) (next : Nat → Tm → Prog (Nat × Tm)) (base : Nat) (T : Tm) : Prog (Nat × Tm) :=
  bif base.beq base0 then .glob (fun h => some (get T h, h)) fun o => match o with
    | some x => .opt (L x) alt
    | none => next base T
  else next base T
def VarOk (keep : Nat → List Nat) (F : Nat → Tm → Prog (Nat × Tm)) (q : Nat → Tm → Prog (Nat × Tm)) : Prop :=
  ∀ base T h r h', go (q base T) h = some (r, h') → ∃ m, go (iterK base keep (F base) m T) h = some (r, h')
theorem VarOk.fail (keep : Nat → List Nat) (F : Nat → Tm → Prog (Nat × Tm)) : VarOk keep F fun _ _ => .fail := fun _ _ _ _ _ e => nomatch e
theorem varP_ok {X Y : Type} {base0 : Nat} {keep : Nat → List Nat} {F : Nat → Tm → Prog (Nat × Tm)} {s : StS} {flat : StD s → X} {un : X → StD s} (hss : strictS s = true) (hu : ∀ d, un (flat d) = d)
    {getY : Nat → Tm → Hp → Option Y} {outY : Y → (Nat × Tm) × Hp} (hY : ∀ c T h y, getY c T h = some y → ((c, T), h) = outY y) {step : X → Option (X ⊕ Y)}
    (hs : ∀ x, roundK base0 keep (F base0) (sT s (un x)) (sH s (un x)) (rdO (fun T h => (rdS s T h).map flat) getY) = step x) {L : X → Option Y} (hL : ∀ x y, L x = some y → ∃ n, iterO step n x = some y)
    {alt : Y → Prog (Nat × Tm)} (ha : AltOk alt outY) {next : Nat → Tm → Prog (Nat × Tm)} (hn : VarOk keep F next) : VarOk keep F (varP base0 (fun T h => (rdS s T h).map flat) L alt next) := by
  have hget : ∀ T h x, (rdS s T h).map flat = some x → T = sT s (un x) ∧ h = sH s (un x) := fun T h x e => by
    obtain ⟨d, e1, rfl⟩ := Option.map_eq_some_iff.1 e
    rw [hu]; exact rdS_some hss e1
  intro base T h r h' e
  unfold varP at e
  cases hb : Nat.beq base base0 <;> rw [hb] at e
  · exact hn base T h r h' e
  · obtain rfl := nb_iff.1 hb
    unfold go at e
    simp only [cond_true, run, cond_false, Option.bind_some] at e
    cases hg : (rdS s T h).map flat with
    | none => rw [hg] at e; exact hn base T h r h' e
    | some x =>
      rw [hg] at e
      simp only [run] at e
      obtain ⟨y, e1, e2⟩ := Option.bind_eq_some_iff.1 e
      obtain ⟨rfl, rfl⟩ := hget T h x hg
      obtain ⟨n, e3⟩ := hL x y e1
      refine ⟨n, ?_⟩
      rw [iterO_go hget hY hs n x y e3]
      congr 1
      exact (ha y _ _ e2).symm
end
end Go.Proofs.YtmjbedjnojcmfaaDoor.Ex

namespace Go.Proofs.YtmjbedjnojcmfaaDoor.Ex
set_option linter.unusedSectionVars false
set_option linter.unusedVariables false
section
variable [RT]

theorem capL_bind {α β : Type} : ∀ (vs : List AV) (k : List AV → Prog α) (f : α → Prog β), (capL vs k).bind f = capL vs fun r => (k r).bind f
  | [], _, _ => rfl
  | v :: r, k, f => by
    cases v with
    | ptr id off =>
      simp only [capL, Prog.bind]
      congr 1
      funext b
      cases b with
      | box cs =>
        simp only
        cases dataL cs
        · exact capL_bind r _ f
        · simp only [cond_true, Prog.bind]; congr 1; exact capL_bind r _ f
      | row e l => rfl
    | _ => simp only [capL]; exact capL_bind r _ f
theorem lookL_bind {α β : Type} : ∀ (vs : List AV) (k : List AV → Prog α) (f : α → Prog β), (lookL vs k).bind f = lookL vs fun r => (k r).bind f
  | [], _, _ => rfl
  | v :: r, k, f => by
    cases v with
    | row id =>
      simp only [lookL, Prog.bind]
      congr 1
      funext b
      cases b with
      | box cs => rfl
      | row e l => exact lookL_bind r _ f
    | _ => simp only [lookL]; exact lookL_bind r _ f
theorem rowsL_bind {α β : Type} : ∀ (vs : List AV) (k : List AV → Prog α) (f : α → Prog β), (rowsL vs k).bind f = rowsL vs fun r => (k r).bind f
  | [], _, _ => rfl
  | v :: r, k, f => by
    cases v with
    | row id =>
      simp only [rowsL, Prog.bind]
      congr 1
      funext b
      cases b with
      | box cs => rfl
      | row e l => simp only [Prog.bind]; congr 1; exact rowsL_bind r _ f
    | _ => simp only [rowsL]; exact rowsL_bind r _ f
mutual
theorem frz_bind {α β : Type} (dl : Bool) : ∀ (v : AV) (k : AV → Prog α) (f : α → Prog β), (frz dl v k).bind f = frz dl v fun r => (k r).bind f
  | .row id, k, f => by
    simp only [frz, Prog.bind]
    congr 1
    funext b
    cases b with
    | box cs => rfl
    | row e l => cases dl <;> simp only [cond_true, cond_false, Prog.bind]
  | .agg cs, k, f => by simp only [frz]; exact frzL_bind dl cs _ f
  | .tup cs, k, f => by simp only [frz]; exact frzL_bind dl cs _ f
  | .clo g a b, k, f => by
    simp only [frz]
    cases dl
    · simp only [cond_false]; exact frzL_bind false b _ f
    · simp only [cond_true]; exact capL_bind b _ f
  | .undef, k, f => rfl
  | .int _ _, k, f => rfl
  | .bool _, k, f => rfl
  | .str _, k, f => rfl
  | .nil, k, f => rfl
  | .sl _ _, k, f => rfl
  | .ptr id off, k, f => by
    simp only [frz]
    cases dl
    · simp only [cond_false, Prog.bind]
      congr 1
      funext b
      cases b with
      | box cs =>
        simp only
        rw [lookL_bind]
        congr 1
        funext c
        cases dataL c <;> rfl
      | row e l => rfl
    · rfl
  | .eptr _ _ _ _, k, f => rfl
  | .sub id sz lo hi, k, f => by
    simp only [frz, Prog.bind]
    congr 1
    funext b
    cases b with
    | box cs => rfl
    | row e l =>
      dsimp only
      generalize Nat.beq sz (eTy e).size = q
      cases q <;> cases dl <;> simp only [cond_true, cond_false, Prog.bind]
  | .vsl e id sz n, k, f => by
    cases dl
    · rfl
    simp only [frz, Prog.bind, cond_true]
    congr 1
    funext b
    cases b with
    | box cs =>
      dsimp only
      generalize Nat.beq sz (eTy e).size = q
      cases q
      · rfl
      · simp only [cond_true, Prog.bind]
        congr 1
        rw [rowsL_bind]
        rfl
    | row e l => rfl
  | .view _ _, k, f => rfl
theorem frzL_bind {α β : Type} (dl : Bool) : ∀ (vs : List AV) (k : List AV → Prog α) (f : α → Prog β), (frzL dl vs k).bind f = frzL dl vs fun r => (k r).bind f
  | [], _, _ => rfl
  | v :: r, k, f => by
    simp only [frzL]
    rw [frz_bind dl v]
    congr 1
    funext x
    exact frzL_bind dl r _ f
end

theorem capL_free {α : Type} : ∀ (vs : List AV) (k : List AV → Prog α), AV.idsL vs = [] → capL vs k = k vs
  | [], _, _ => rfl
  | v :: r, k, h => by
    simp only [AV.idsL, List.append_eq_nil_iff] at h
    cases v with
    | ptr id off => simp [AV.ids] at h
    | _ => simp only [capL]; exact capL_free r _ h.2
mutual
theorem frz_free {α : Type} (dl : Bool) : ∀ (v : AV) (k : AV → Prog α), v.ids = [] → frz dl v k = k v
  | .row id, k, h => by simp [AV.ids] at h
  | .agg cs, k, h => by simp only [frz]; exact frzL_free dl cs _ (by simpa [AV.ids] using h)
  | .tup cs, k, h => by simp only [frz]; exact frzL_free dl cs _ (by simpa [AV.ids] using h)
  | .clo g a b, k, h => by
    simp only [AV.ids, List.append_eq_nil_iff] at h
    simp only [frz]
    cases dl
    · simp only [cond_false]; exact frzL_free false b _ h.2
    · simp only [cond_true]; exact capL_free b _ h.2
  | .undef, k, _ => rfl
  | .int _ _, k, _ => rfl
  | .bool _, k, _ => rfl
  | .str _, k, _ => rfl
  | .nil, k, _ => rfl
  | .sl _ _, k, _ => rfl
  | .ptr _ _, k, h => by simp [AV.ids] at h
  | .eptr _ _ _ _, k, _ => rfl
  | .sub _ _ _ _, k, h => by simp [AV.ids] at h
  | .vsl _ _ _ _, k, h => by simp [AV.ids] at h
  | .view _ _, k, _ => rfl
theorem frzL_free {α : Type} (dl : Bool) : ∀ (vs : List AV) (k : List AV → Prog α), AV.idsL vs = [] → frzL dl vs k = k vs
  | [], _, _ => rfl
  | v :: r, k, h => by
    simp only [AV.idsL, List.append_eq_nil_iff] at h
    simp only [frzL]
    rw [frz_free dl v _ h.1, frzL_free dl r _ h.2]
end
mutual
theorem ren_free (ρ : Nat → Option Nat) : ∀ v : AV, v.ids = [] → v.ren ρ = v
  | .ptr id off, h => by simp [AV.ids] at h
  | .row id, h => by simp [AV.ids] at h
  | .eptr _ _ _ _, h => by simp [AV.ids] at h
  | .sub _ _ _ _, h => by simp [AV.ids] at h
  | .vsl _ _ _ _, h => by simp [AV.ids] at h
  | .view cs off, h => by simp only [AV.ren]; rw [renL_free ρ cs (by simpa [AV.ids] using h)]
  | .clo f a b, h => by
    simp only [AV.ids, List.append_eq_nil_iff] at h
    simp only [AV.ren]; rw [renL_free ρ a h.1, renL_free ρ b h.2]
  | .agg cs, h => by simp only [AV.ren]; rw [renL_free ρ cs (by simpa [AV.ids] using h)]
  | .tup cs, h => by simp only [AV.ren]; rw [renL_free ρ cs (by simpa [AV.ids] using h)]
  | .undef, _ => rfl
  | .int _ _, _ => rfl
  | .bool _, _ => rfl
  | .str _, _ => rfl
  | .nil, _ => rfl
  | .sl _ _, _ => rfl
theorem renL_free (ρ : Nat → Option Nat) : ∀ vs : List AV, AV.idsL vs = [] → AV.renL ρ vs = vs
  | [], _ => rfl
  | v :: r, h => by
    simp only [AV.idsL, List.append_eq_nil_iff] at h
    simp only [AV.renL]; rw [ren_free ρ v h.1, renL_free ρ r h.2]
end

theorem ext0_ids : ∀ bs : List (Nat × Blk), extIds 0 bs = []
  | [] => rfl
  | (k, b) :: r => by simp only [extIds]; rw [show leB 0 k = true from leB_iff.2 (Nat.zero_le _), cond_true]; exact ext0_ids r
theorem ext0_blks (ρ : Nat → Option Nat) : ∀ bs : List (Nat × Blk), extB 0 ρ bs = []
  | [] => rfl
  | (k, b) :: r => by simp only [extB]; rw [show leB 0 k = true from leB_iff.2 (Nat.zero_le _), cond_true]; exact ext0_blks ρ r

theorem norm_none {α R : Type} (T : Tm) (keep : List Nat) (hT : idsT T keep = []) (k : Tm → Prog α) (h : Hp) (f : Foot) (K : α → Hp → Foot → Option R) :
    run (.norm 0 keep T k) false h f K = run (k (keepT (renOf 0 []) T keep)) false ⟨[], 0⟩ f K := by
  simp only [run, cond_false]
  have e : normOrder 0 keep T h.blks = [] := by
    unfold normOrder
    rw [hT, ext0_ids]
    rfl
  rw [e, show leB 0 h.c = true from leB_iff.2 (Nat.zero_le _)]
  simp only [nodupN, Bool.and_self, cond_true, ext0_blks]
  rfl

theorem finP_free {R : Type} (v : AV) (hv : v.ids = []) (h : Hp) (f : Foot) (K : AV → Hp → Foot → Option R) : run (finP true v) false h f K = K v ⟨[], 0⟩ f := by
  unfold finP
  rw [cond_true, frz_free true v _ hv, norm_none _ _ (by simp [idsT, getT, hv])]
  have : getT (keepT (renOf 0 []) [(0, v)] [0]) 0 = v := by
    show AV.ren _ v = v
    exact ren_free _ v hv
  rw [this]; rfl

def outP (rs : Sh) (v : AV) : Prog (ShD rs) := frz true v fun v' => .opt (rd rs v') fun d => .norm 0 [] [] fun _ => .ret d

def evG (q : List AV → Prog AV) (sh : List Sh) (rs : Sh) (x : ShDs sh) : Option (ShD rs) := run ((q (mks sh x)).bind (outP rs)) false ⟨[], 0⟩ ⟨[], []⟩ fun d _ _ => some d

def qIn (sh : List Sh) (q : List AV → Prog AV) (args : List AV) : Prog AV := .opt (rds sh args) fun x => q (mks sh x)
def qOut (rs : Sh) (q : List AV → Prog AV) (args : List AV) : Prog AV := (q args).bind fun v => frz true v fun v' => .opt (rd rs v') fun d => .ret (mk rs d)
def conN (sh : List Sh) (rs : Sh) (G : ShDs sh → Option (ShD rs)) (args : List AV) : Option (Bool × AV × List Blk) := (rds sh args).bind fun x => (G x).map fun r => (true, mk rs r, [])

def conP (dl : Bool) (sh : List Sh) (rs : Sh) (G : ShDs sh → Option (ShD rs)) (args : List AV) : Prog AV :=
  frzL dl args fun args' => .opt (rds sh args') fun x => .opt (G x) fun r => .ret (mk rs r)
section
variable {P : Program}
theorem SoundA.qIn {g : FuncId} {q : List AV → Prog AV} (hq : SoundA P g q) {sh : List Sh} (hf : frees sh = true) : SoundA P g (Go.Proofs.YtmjbedjnojcmfaaDoor.Ex.qIn sh q) := by
  intro tr args h ft v h' ft' vals hdr S w ok e hr hm hv hi hO
  obtain ⟨x, e1, e2⟩ := ex_opt e
  exact hq tr _ h ft v h' ft' vals hdr S w ok e2 hr hm (rds_rep sh args x vals e1 hv) (fun n hn => by rw [mks_ids sh x hf] at hn; cases hn) hO

theorem SoundA.qOut {g : FuncId} {q : List AV → Prog AV} (hq : SoundA P g q) {rs : Sh} (hf : free rs = true) : SoundA P g (Go.Proofs.YtmjbedjnojcmfaaDoor.Ex.qOut rs q) := by
  intro tr args h ft v h' ft' vals hdr S w ok e hr hm hv hi hO
  obtain ⟨v0, h1, f1, e1, e2⟩ := ex_bind_some e
  have hO1 : ∀ id, ok id → Out tr h.c h1.c id := fun id k => (hO id k).less fun ht => by subst ht; exact ex_mono _ _ _ _ e2
  obtain ⟨c1, c2⟩ := hq tr args h ft v0 _ _ vals hdr S w ok e1 hr hm hv hi hO1
  refine ⟨c1, c2.mono ?_⟩
  rintro en w' ⟨u, hdr', S', rfl, p1, k3, k4⟩
  obtain ⟨v', h2, f2, S2, e3, p2, q2, i2, cc⟩ := frz_del v0 _ h1 f1 S' u (okn ok h.c h1.c) p1.real p1.ment k3 _ e2
  obtain ⟨d, e4, e5⟩ := ex_opt e3
  cases ex_ret e5
  exact ⟨u, hdr', S2, rfl, p1.trans p2, rd_rep rs v' d u e4 q2, fun n hn => by rw [mk_ids rs d hf] at hn; cases hn⟩

theorem conA {g : FuncId} {q : List AV → Prog AV} (hq : SoundA P g q) (dl : Bool) {sh : List Sh} {rs : Sh} (hsh : frees sh = true) (hrs : free rs = true) {G : ShDs sh → Option (ShD rs)} (hG : ∀ x r, G x = some r → evG q sh rs x = some r)
    (hpl : dl = true ∨ ∀ r, plainV (mk rs r) = true) : SoundA P g (specP dl (conN sh rs G)) := by
  refine soundA_spec (fz := true) ((hq.qIn hsh).qOut hrs) fun args v bs h => ?_
  obtain ⟨x, e1, e2⟩ := Option.bind_eq_some_iff.1 h
  obtain ⟨r, e3, e4⟩ := Option.map_eq_some_iff.1 e2
  cases e4
  refine ⟨rds_ids sh args x hsh e1, hpl.imp id fun k => ⟨k r, rfl⟩, ?_⟩
  have hx := hG x r e3
  unfold evG at hx
  rw [run_bind, run_ex] at hx
  obtain ⟨⟨v1, h1, f1⟩, e5, e6⟩ := Option.bind_eq_some_iff.1 hx
  have hb : outP rs v1 = (frz true v1 .ret).bind fun v' => .opt (rd rs v') fun d => .norm 0 [] [] fun _ => .ret d := by
    rw [frz_bind]; rfl
  simp only at e6
  rw [hb, run_bind, run_ex] at e6
  obtain ⟨⟨v2, h2, f2⟩, e7, e8⟩ := Option.bind_eq_some_iff.1 e6
  simp only [run] at e8
  obtain ⟨d, e9, e10⟩ := Option.bind_eq_some_iff.1 e8
  have e11 : run (.norm 0 [] [] fun _ => .ret d) false h2 f2 (fun d _ _ => some d) = some r := e10
  rw [norm_none _ _ rfl] at e11
  obtain rfl : d = r := Option.some.inj e11
  refine ⟨f2, ?_⟩
  unfold ex Go.Proofs.YtmjbedjnojcmfaaDoor.Ex.qOut Go.Proofs.YtmjbedjnojcmfaaDoor.Ex.qIn
  rw [e1]
  simp only [Prog.bind, run, Option.bind_some]
  rw [run_bind, run_bind, run_ex, e5]
  simp only [Option.bind_some]
  have hb2 : (frz true v1 fun v' => Prog.opt (rd rs v') fun d => .ret (mk rs d)) = (frz true v1 .ret).bind fun v' => .opt (rd rs v') fun d => .ret (mk rs d) := by
    rw [frz_bind]; rfl
  rw [hb2, run_bind, run_ex, e7]
  simp only [Option.bind_some, run, e9]
  exact finP_free _ (mk_ids rs d hrs) h2 f2 _

theorem conP_sound {g : FuncId} {q : List AV → Prog AV} (hq : SoundA P g q) (dl : Bool) {sh : List Sh} {rs : Sh} (hsh : frees sh = true) (hrs : free rs = true) {G : ShDs sh → Option (ShD rs)} (hG : ∀ x r, G x = some r → evG q sh rs x = some r)
    (hpl : dl = true ∨ ∀ r, plainV (mk rs r) = true) : SoundA P g (conP dl sh rs G) := by
  refine SoundA.weaken fun args tr h f r h' f' e => ⟨specP dl (conN sh rs G), f', conA hq dl hsh hrs hG hpl, ?_⟩
  have e1 : conP dl sh rs G args = (frzL dl args .ret).bind fun args' => .opt (rds sh args') fun x => .opt (G x) fun r => .ret (mk rs r) := by
    rw [frzL_bind]; rfl
  have e2 : specP dl (conN sh rs G) args = (frzL dl args .ret).bind fun args' => .opt (conN sh rs G args') fun r => .ite r.1 (.ctr fun base => newsP (shiftB base r.2.2.length) r.2.2 (.ret (r.2.1.ren (shiftB base r.2.2.length)))) .fail := by
    rw [frzL_bind]; rfl
  unfold ex at e ⊢
  rw [e1, run_bind, run_ex] at e
  rw [e2, run_bind, run_ex]
  obtain ⟨⟨a1, h1, f1⟩, e3, e4⟩ := Option.bind_eq_some_iff.1 e
  rw [e3]
  simp only [Option.bind_some, run] at e4 ⊢
  obtain ⟨x, e5, e6⟩ := Option.bind_eq_some_iff.1 e4
  obtain ⟨y, e7, e8⟩ := Option.bind_eq_some_iff.1 e6
  cases e8
  unfold conN
  rw [e5]
  simp only [Option.bind_some, e7, Option.map_some, cond_true, newsP, run]
  rw [ren_free _ _ (mk_ids rs y hrs)]

end
end
end Go.Proofs.YtmjbedjnojcmfaaDoor.Ex

namespace Go.Proofs.YtmjbedjnojcmfaaDoor.Ex
set_option linter.unusedSectionVars false
set_option linter.unusedVariables false
set_option linter.unusedSimpArgs false
section
variable [RT]
def frcV {β : Type} (v : AV) (k : AV → β) : β := match v with
  | .undef => k .undef
  | .int c n => k (.int c n)
  | .bool b => k (.bool b)
  | .str s => k (.str s)
  | .nil => k .nil
  | .sl e l => k (.sl e l)
  | .ptr id off => k (.ptr id off)
  | .row id => k (.row id)
  | .eptr id sz i off => k (.eptr id sz i off)
  | .sub id sz lo hi => k (.sub id sz lo hi)
  | .vsl e id sz n => k (.vsl e id sz n)
  | .view cs off => k (.view cs off)
  | .clo f a b => k (.clo f a b)
  | .agg cs => k (.agg cs)
  | .tup vs => k (.tup vs)
theorem frcV_eq {β : Type} (v : AV) (k : AV → β) : frcV v k = k v := by cases v <;> rfl
noncomputable def lookX {β : Type} (T : Tm) (l : List Nat) : (Tm → β) → β := @List.rec Nat (fun _ => (Tm → β) → β) (fun k => k []) (fun t _ ih k => frcV (getR T t) fun v => ih fun R => k ((t, v) :: R)) l
theorem lookX_eq {β : Type} (T : Tm) (l : List Nat) (k : Tm → β) : lookX T l k = k (lookT T l) := by
  induction l generalizing k with
  | nil => rfl
  | cons t l ih =>
    show frcV (getR T t) (fun v => lookX T l fun R => k ((t, v) :: R)) = _
    rw [frcV_eq, ih, getR_eq]; rfl
noncomputable def qIndex (ti : TypeId → Option TInfo) (T : Tm) (t : TypeId) (x ix : Operand) : Prog AV := .opt (ti t) fun i => bif isStr i.ty then
    match evOR T x, evOR T ix with
    | .str s, .int _ n => .ite (decide (0 ≤ n)) (.opt s[n.toNat]? fun b => .ret (.int .u8 (b.toNat : Nat))) .fail
    | _, _ => .fail
    else .fail

noncomputable def qLoad2 (ti : TypeId → Option TInfo) (T : Tm) (t : TypeId) (p : Operand) : Prog AV := .opt (ti t) fun i => match evOR T p with
    | .ptr id off => .get id fun
      | .box cs => .opt (subR cs off i.ty.size) fun ds => .ret (pack i.ty ds)
      | .row _ _ => .fail
    | .view cs off => .opt (subR cs off i.ty.size) fun ds => .ret (pack i.ty ds)
    | .eptr id sz j off => .get id fun
      | .row e l => bif Nat.beq sz (eTy e).size then .opt l[j]? fun d => .opt (subL (expand (eTy e) (eVal e d)) off i.ty.size) fun ds => .ret (pack i.ty ds) else .fail
      | .box _ => .fail
    | _ => .fail
noncomputable def qStore2 (ti : TypeId → Option TInfo) (T : Tm) (t : TypeId) (p x : Operand) : Prog AV := .opt (ti t) fun i => .opt (cellsOf (evOR T x)) fun vs => bif Nat.beq (lenR vs) i.ty.size && flatR vs then
      match evOR T p with
      | .ptr id off => .get id fun
        | .box cs => bif leB (off + lenR vs) (lenR cs) then .put id (.box (splR cs off vs)) (.ret .undef) else .fail
        | .row _ _ => .fail
      | .eptr id sz j off => freeze vs fun vs' => .get id fun
        | .row e l => bif Nat.beq sz (eTy e).size then .opt l[j]? fun d =>
          bif leB (off + vs'.length) (eTy e).size then .opt (collapse (eTy e) (splice (expand (eTy e) (eVal e d)) off vs')) fun d' => .put id (.row e (l.set j (eMk e d'))) (.ret .undef) else .fail
          else .fail
        | .box _ => .fail
      | _ => .fail
    else .fail
noncomputable def qIndexAddr2 (ti : TypeId → Option TInfo) (T : Tm) (t : TypeId) (x ix : Operand) : Prog AV := .opt (ti t) fun i => .opt (ti i.elem) fun ie => bif isSl i.ty then
    match evOR T x, evOR T ix with
    | .sl e l, .int _ n => bif Nat.beq ie.ty.size (eTy e).size then .ite (decide (0 ≤ n)) (.opt l[n.toNat]? fun d => .ret (.view (expand (eTy e) (eVal e d)) 0)) .fail else .fail
    | .row id, .int _ n => .get id fun
      | .row e l => bif Nat.beq ie.ty.size (eTy e).size then .ite (decide (0 ≤ n)) (.opt l[n.toNat]? fun _ => .ret (.eptr id (eTy e).size n.toNat 0)) .fail else .fail
      | .box _ => .fail
    | .vsl _ id sz m, .int _ n => bif Nat.beq ie.ty.size sz then .ite (decide (0 ≤ n ∧ n.toNat < m)) (.ret (.ptr id (n.toNat * sz))) .fail else .fail
    | _, _ => .fail
    else .fail

abbrev KX (R α : Type) := α → Hp → Foot → Option R
abbrev RunX (R α : Type) := Bool → Hp → Foot → KX R α → Option R
section
variable {R : Type}
noncomputable def yIte (b : Bool) (p q : Option R) : Option R := @Bool.rec (fun _ => Option R) q p b
noncomputable def xOpt {α β : Type} (x : Option β) (k : β → RunX R α) : RunX R α := fun tr h f K => @Option.rec β (fun _ => Option R) none (fun b => k b tr h f K) x
noncomputable def xAlt {α β γ : Type} (x : β ⊕ γ) (k : β → RunX R α) (l : γ → RunX R α) : RunX R α := fun tr h f K => @Sum.rec β γ (fun _ => Option R) (fun b => k b tr h f K) (fun c => l c tr h f K) x
noncomputable def xGet {α : Type} (id : Nat) (k : Blk → RunX R α) : RunX R α := fun tr h f K => @Option.rec Blk (fun _ => Option R) none (fun b => k b tr h (addR tr f id) K) (findR h.blks id)
noncomputable def xPut {α : Type} (id : Nat) (b : Blk) (k : RunX R α) : RunX R α := fun tr h f K => @Option.rec Blk (fun _ => Option R) none (fun _ => k tr { h with blks := setR h.blks id b } (addW tr f id) K) (findR h.blks id)
noncomputable def xNew {α : Type} (b : Blk) (k : Nat → RunX R α) : RunX R α := fun tr h f K => k h.c tr { blks := (h.c, b) :: h.blks, c := h.c + 1 } (addW tr f h.c) K
noncomputable def xDel {α : Type} (id : Nat) (k : RunX R α) : RunX R α := fun tr h f K => @Option.rec Blk (fun _ => Option R) none (fun _ => k tr { h with blks := delR h.blks id } (addW tr f id) K) (findR h.blks id)
noncomputable def xSeek {α : Type} (n : Nat) (k : RunX R α) : RunX R α := fun tr h f K => @Bool.rec (fun _ => Option R) none (k tr { h with c := n } f K) (leB h.c n)
noncomputable def xTrace {α β : Type} (p : RunX R β) (k : β → Foot → RunX R α) : RunX R α := fun tr h f K => p true h { rd := [], wr := [] } fun b h' f' => k b f' tr h' { rd := f'.rd ++ f.rd, wr := f'.wr ++ f.wr } K
noncomputable def xNorm {α : Type} (base : Nat) (keep : List Nat) (T : Tm) (k : Tm → RunX R α) : RunX R α := fun tr h f K =>
    bif tr then none else
    let order := normOrder base keep T h.blks
    bif nodupN order && leB base h.c then k (keepT (renOf base order) T keep) tr { blks := extB base (renOf base order) h.blks ++ newB (renOf base order) h.blks base order, c := base + order.length } f K
    else none
noncomputable def xGlob {α β : Type} (g : Hp → Option (β × Hp)) (k : β → RunX R α) : RunX R α := fun tr h f K => bif tr then none else @Option.rec (β × Hp) (fun _ => Option R) none (fun r => k r.1 tr r.2 f K) (g h)
noncomputable def runX {α : Type} (p : Prog α) : RunX R α :=
  @Prog.rec _ (fun {α} _ => RunX R α)
    (fun a _ h f K => K a h f)
    (fun _ _ _ _ => none)
    (fun b _ _ ihp ihq tr h f K => yIte b (ihp tr h f K) (ihq tr h f K))
    (fun x _ ih => xOpt x ih)
    (fun x _ _ ihk ihl => xAlt x ihk ihl)
    (fun id _ ih => xGet id ih)
    (fun id b _ ih => xPut id b ih)
    (fun b _ ih => xNew b ih)
    (fun id _ ih => xDel id ih)
    (fun _ ih tr h f K => ih h.c tr h f K)
    (fun n _ ih => xSeek n ih)
    (fun _ _ ihp ihk => xTrace ihp ihk)
    (fun base keep T _ ih => xNorm base keep T ih)
    (fun g _ ih => xGlob g ih) _ p
end
theorem runX_eq {α : Type} (p : Prog α) : ∀ {R : Type} (tr : Bool) (h : Hp) (f : Foot) (K : KX R α), runX p tr h f K = run p tr h f K := by
  induction p with
  | ret a => intros; rfl
  | fail => intros; rfl
  | ite b p q ihp ihq => intro R tr h f K; cases b <;> first | exact ihp .. | exact ihq ..
  | opt x k ih => intro R tr h f K; cases x <;> first | rfl | exact ih ..
  | alt x k l ihk ihl => intro R tr h f K; cases x <;> first | exact ihk .. | exact ihl ..
  | get id k ih =>
    intro R tr h f K
    change @Option.rec Blk (fun _ => Option R) none (fun b => runX (k b) tr h (addR tr f id) K) (findR h.blks id) = _
    rw [findR_eq]
    simp only [run]
    cases findB h.blks id <;> first | rfl | exact ih ..
  | put id b k ih =>
    intro R tr h f K
    change @Option.rec Blk (fun _ => Option R) none (fun _ => runX k tr { h with blks := setR h.blks id b } (addW tr f id) K) (findR h.blks id) = _
    rw [findR_eq, setR_eq]
    simp only [run]
    cases findB h.blks id <;> first | rfl | exact ih ..
  | new b k ih => intro R tr h f K; exact ih ..
  | del id k ih =>
    intro R tr h f K
    change @Option.rec Blk (fun _ => Option R) none (fun _ => runX k tr { h with blks := delR h.blks id } (addW tr f id) K) (findR h.blks id) = _
    rw [findR_eq, delR_eq]
    simp only [run]
    cases findB h.blks id <;> first | rfl | exact ih ..
  | ctr k ih => intro R tr h f K; exact ih ..
  | seek n k ih =>
    intro R tr h f K
    change @Bool.rec (fun _ => Option R) none (runX k tr { h with c := n } f K) (leB h.c n) = _
    simp only [run]
    cases leB h.c n <;> first | rfl | exact ih ..
  | trace p k ihp ihk =>
    intro R tr h f K
    change runX p true h { rd := [], wr := [] } (fun b h' f' => runX (k b f') tr h' { rd := f'.rd ++ f.rd, wr := f'.wr ++ f.wr } K) = _
    rw [ihp]
    simp only [run, ihk]
  | norm base keep T k ih =>
    intro R tr h f K
    simp only [run]
    cases tr
    · change (bif nodupN (normOrder base keep T h.blks) && leB base h.c then runX (k (keepT (renOf base (normOrder base keep T h.blks)) T keep)) false _ f K else none) = _
      simp only [cond_false]
      cases (nodupN (normOrder base keep T h.blks) && leB base h.c) <;> first | rfl | exact ih ..
    · rfl
  | glob g k ih =>
    intro R tr h f K
    simp only [run]
    cases tr
    · change @Option.rec _ (fun _ => Option R) none (fun r => runX (k r.1) false r.2 f K) (g h) = _
      simp only [cond_false]
      cases g h <;> first | rfl | exact ih ..
    · rfl

abbrev CalX (R : Type) := FuncId → List AV → RunX R AV
def Same {R α : Type} (t : RunX R α) (p : Prog α) : Prop := ∀ (tr : Bool) (h : Hp) (f : Foot) (K : KX R α), t tr h f K = run p tr h f K
theorem Same.run {R α : Type} (p : Prog α) : Same (R := R) (runX p) p := fun tr h f K => runX_eq p tr h f K
theorem Same.no {R α : Type} : Same (R := R) (fun _ _ _ _ => none) (.fail : Prog α) := fun _ _ _ _ => rfl
theorem Same.bind {R α β : Type} {t : RunX R α} {p : Prog α} {u : α → RunX R β} {q : α → Prog β} (hp : Same t p) (hq : ∀ a, Same (u a) (q a)) : Same (fun tr h f K => t tr h f fun a h f => u a tr h f K) (p.bind q) := by
  intro tr h f K
  rw [run_bind, ← hp]
  show t tr h f (fun a h f => u a tr h f K) = _
  congr 1
  funext a h f
  exact hq a tr h f K

section
variable {R : Type}
noncomputable def xCall (ti : TypeId → Option TInfo) (cal : CalX R) (T : Tm) (c : Call) : RunX R AV := match c.callee with
    | .builtin b => runX (builtinP ti b c.argTypes.toList (evLR T c.args.toList))
    | .value x => match evOR T x with
      | .clo g first caps => cal g (appR first (appR (evLR T c.args.toList) caps))
      | _ => fun _ _ _ _ => none
    | .invoke _ _ => fun _ _ _ _ => none
noncomputable def opX (cx : Ctx) (cal : CalX R) (T : Tm) (o : Oper) : RunX R AV :=
  match o.op with
  | .move x => fun _ h f K => K (evOR T x) h f
  | .assign x => fun _ h f K => K (evOR T x) h f
  | .call c => xCall (tiL cx.tab) cal T c
  | .pick c a b => runX (qPick T c a b)
  | .alloc t => runX (qAlloc (tiL cx.tab) t)
  | .box _ x => runX (qBox T x)
  | .load t p => runX (qLoad2 (tiL cx.tab) T t p)
  | .store t p x => runX (qStore2 (tiL cx.tab) T t p x)
  | .fieldAddr s x g => runX (qFieldAddr (tiL cx.tab) T s x g)
  | .field t x g => runX (qField (tiL cx.tab) T t x g)
  | .indexAddr t x ix => runX (qIndexAddr2 (tiL cx.tab) T t x ix)
  | .binOp op xT x y _ => runX (binP (tiL cx.tab) op xT (evOR T x) (evOR T y))
  | .unOp op _ x => runX (qUn T op x)
  | .convert src dst x => runX (qConvert (tiL cx.tab) T src dst x)
  | .build t ps => runX (qBuild (tiL cx.tab) T t ps)
  | .buildSlice t n ps => runX (qBuildSlice cx.vr (tiL cx.tab) T t n ps)
  | .makeSlice t n c => runX (qMakeSlice (tiL cx.tab) T t n c)
  | .slice t x lo hi mx => runX (qSlice (tiL cx.tab) T t x lo hi mx)
  | .extract t i => runX (qExtract T t i)
  | .makeFunc fn first caps => runX (qMakeFunc T fn first caps)
  | .nilCheck x => runX (qNilCheck T x)
  | .index t x ix => runX (qIndex (tiL cx.tab) T t x ix)
  | _ => fun _ _ _ _ => none

theorem opX_same (cx : Ctx) {cal : CalX R} {calP : FuncId → List AV → Prog AV} (hc : ∀ g a, Same (cal g a) (calP g a)) (T : Tm) (o : Oper) : Same (opX cx cal T o) (opP cx calP T o) := by
  unfold opX opP xCall qPick qBox qLoad2 qStore2 qFieldAddr qField qIndexAddr2 qUn qConvert qBuild qBuildSlice qMakeSlice qSlice qExtract qMakeFunc qNilCheck qAlloc qIndex
  simp only [evOR_eq, evLR_eq, subR_eq, fillR_eq, lenR_eq, flatR_eq, splR_eq, nthR_eq, qBuiltin_eq, appR_eq]
  cases o.op with
  | call c =>
    simp only
    cases c.callee with
    | value x =>
      simp only
      cases evO T x with
      | clo g first caps => simp only; rw [← List.append_assoc]; exact hc _ _
      | _ => exact Same.no
    | builtin b => exact Same.run _
    | invoke x m => exact Same.no
  | move x => exact fun tr h f K => rfl
  | assign x => exact fun tr h f K => rfl
  | _ => first | exact Same.run _ | exact Same.no

noncomputable def stepX (cx : Ctx) (cal : CalX R) (n : Nat) (ops : List Oper) (T : Tm) (o : Oper) : RunX R Tm := fun tr h f K =>
  bif inN n o.dst then match o.guard with
  | none => opX cx cal T o tr h f fun v h f => K (putT T o.dst v) h f
  | some (j, want) => match dstOf ops j with
    | none => none
    | some g => match getR T g with
      | .bool b => yIte b
        (bif want then opX cx cal ((g, .bool true) :: T) o tr h f (fun v h f => K (putT ((g, .bool true) :: T) o.dst v) h f) else K (putT ((g, .bool true) :: T) o.dst (.tup [])) h f)
        (bif want then K (putT ((g, .bool false) :: T) o.dst (.tup [])) h f else opX cx cal ((g, .bool false) :: T) o tr h f (fun v h f => K (putT ((g, .bool false) :: T) o.dst v) h f))
      | .tup [] => K (putT T o.dst (.tup [])) h f
      | _ => none
  else none

theorem stepX_same (cx : Ctx) {cal : CalX R} {calP : FuncId → List AV → Prog AV} (hc : ∀ g a, Same (cal g a) (calP g a)) (n : Nat) (ops : List Oper) (T : Tm) (o : Oper) : Same (stepX cx cal n ops T o) (stepP cx calP n ops T o) := by
  intro tr h f K
  have one : ∀ (T : Tm) (g : AV → Tm), (opX cx cal T o tr h f fun v h f => K (g v) h f) = run ((opP cx calP T o).bind fun v => .ret (g v)) tr h f K := fun T g => by
    rw [run_bind, opX_same cx hc]; rfl
  unfold stepX stepP
  simp only [getR_eq]
  cases hin : inN n o.dst
  · rfl
  simp only [cond_true]
  cases hg : o.guard with
  | none => exact one T _
  | some g =>
    obtain ⟨j, want⟩ := g
    simp only
    cases hd : dstOf ops j with
    | none => rfl
    | some g =>
      simp only
      generalize getT T g = v
      cases v with
      | bool b =>
        simp only [Go.Proofs.YtmjbedjnojcmfaaDoor.Ex.run]
        cases b <;> cases want <;> first | rfl | exact one _ _
      | tup vs => cases vs <;> rfl
      | _ => rfl

noncomputable def seqX (cx : Ctx) (cal : CalX R) (n : Nat) (ops : List Oper) (tr : Bool) (K : KX R Tm) (l : List Oper) : KX R Tm :=
  @List.rec Oper (fun _ => KX R Tm) K (fun o _ ih T h f => stepX cx cal n ops T o tr h f ih) l
theorem seqX_same (cx : Ctx) {cal : CalX R} {calP : FuncId → List AV → Prog AV} (hc : ∀ g a, Same (cal g a) (calP g a)) (n : Nat) (ops : List Oper) : ∀ (l : List Oper) (T : Tm), Same (fun tr h f K => seqX cx cal n ops tr K l T h f) (seqP cx calP n ops l T)
  | [], T => fun tr h f K => rfl
  | o :: l, T => (stepX_same cx hc n ops T o).bind (u := fun T' tr h f K => seqX cx cal n ops tr K l T' h f) fun T' => seqX_same cx hc n ops l T'

noncomputable def drawX (cx : Ctx) (cal : CalX R) (n : Nat) (ops : List Oper) (c0 : Nat) (tr : Bool) (K : KX R Tm) (l : List Oper) : Nat → List Foot → KX R Tm :=
  @List.rec Oper (fun _ => Nat → List Foot → KX R Tm)
    (fun j _ T h f => @Bool.rec (fun _ => Option R) none (K T ⟨h.blks, c0 + j * cx.spn⟩ f) (leB h.c (c0 + j * cx.spn)))
    (fun o _ ih j fs T h f => @Bool.rec (fun _ => Option R) none
      (stepX cx cal n ops T o true ⟨h.blks, c0 + j * cx.spn⟩ ⟨[], []⟩ fun T' h' f' =>
        @Bool.rec (fun _ => Option R) none (ih (j + 1) (appR fs [f']) T' h' ⟨f'.rd ++ f.rd, f'.wr ++ f.wr⟩) (apartR ops j f' fs 0)) (leB h.c (c0 + j * cx.spn))) l
theorem drawX_same (cx : Ctx) {cal : CalX R} {calP : FuncId → List AV → Prog AV} (hc : ∀ g a, Same (cal g a) (calP g a)) (n : Nat) (ops : List Oper) (c0 : Nat) : ∀ (l : List Oper) (j : Nat) (fs : List Foot) (T : Tm),
    Same (fun tr h f K => drawX cx cal n ops c0 tr K l j fs T h f) (drawP cx calP n ops c0 l j fs T)
  | [], j, fs, T => fun tr h f K => by
    change @Bool.rec (fun _ => Option R) none (K T ⟨h.blks, c0 + j * cx.spn⟩ f) (leB h.c (c0 + j * cx.spn)) = _
    simp only [drawP, Go.Proofs.YtmjbedjnojcmfaaDoor.Ex.run]
    cases leB h.c (c0 + j * cx.spn) <;> rfl
  | o :: l, j, fs, T => fun tr h f K => by
    change @Bool.rec (fun _ => Option R) none (stepX cx cal n ops T o true ⟨h.blks, c0 + j * cx.spn⟩ ⟨[], []⟩ fun T' h' f' =>
        @Bool.rec (fun _ => Option R) none (drawX cx cal n ops c0 tr K l (j + 1) (appR fs [f']) T' h' ⟨f'.rd ++ f.rd, f'.wr ++ f.wr⟩) (apartR ops j f' fs 0)) (leB h.c (c0 + j * cx.spn)) = _
    simp only [drawP, Go.Proofs.YtmjbedjnojcmfaaDoor.Ex.run]
    cases leB h.c (c0 + j * cx.spn)
    · rfl
    simp only [cond_true]
    rw [stepX_same cx hc]
    congr 1
    funext T' h' f'
    rw [apartR_eq, appR_eq]
    cases apartP ops j f' 0 fs
    · rfl
    · exact drawX_same cx hc n ops c0 l (j + 1) (fs ++ [f']) T' tr h' _ K

abbrev EX (R : Type) := Nat → Tm → Hp → Foot → Option R
noncomputable def iterX (F : Tm → Hp → Foot → EX R → Option R) (K : EX R) (n : Nat) : Tm → Hp → Foot → Option R :=
  @Nat.rec (fun _ => Tm → Hp → Foot → Option R) (fun _ _ _ => none) (fun _ ih T h f => F T h f fun e T h f => @Nat.rec (fun _ => Option R) (ih T h f) (fun k _ => K (k + 1) T h f) e) n
noncomputable def xRegion (cx : Ctx) (cal : CalX R) (fx : Fx) (tr : Bool) (ops : List Oper) (d : Bool) (T : Tm) (h : Hp) (f : Foot) (K : EX R) : Option R :=
  bif d then bif tmpsOk ops 0 ops then drawX cx cal fx.n ops h.c tr (fun T' h f => lookX T' fx.keep fun R => K 0 R h f) ops 0 [] T h f else none
    else seqX cx cal fx.n ops tr (fun T' h f => lookX T' fx.keep fun R => K 0 R h f) ops T h f
noncomputable def xCond (c : Operand) (T : Tm) (x y : Tm → Option R) : Option R := match c with
    | .tmp t => match getR T t with
      | .bool v => yIte v (x ((t, .bool true) :: T)) (y ((t, .bool false) :: T))
      | _ => none
    | .const (.bool v) => bif v then x T else y T
    | _ => none
noncomputable def evCX (cx : Ctx) (cal : CalX R) (fx : Fx) (tr : Bool) : Code → Nat → Tm → Hp → Foot → EX R → Option R
  | .skip, _, T, h, f, K => K 0 T h f
  | .region _ ops d, _, T, h, f, K => xRegion cx cal fx tr ops.toList d T h f K
  | .seq x y, b, T, h, f, K => evCX cx cal fx tr x b T h f fun e T h f => @Nat.rec (fun _ => Option R) (evCX cx cal fx tr y b T h f K) (fun k _ => K (k + 1) T h f) e
  | .cond c x y, b, T, h, f, K => xCond c T (fun T => evCX cx cal fx tr x b T h f K) (fun T => evCX cx cal fx tr y b T h f K)
  | .block id x, _, T, h, f, K => evCX cx cal fx tr x id T h f fun e T h f => K (bif Nat.beq e (2 + id) then 0 else e) T h f
  | .loop x, b, T, h, f, K => @Option.rec (Nat → Tm → Prog (Nat × Tm)) (fun _ => Option R) (iterX (fun T h f K => evCX cx cal fx tr x b T h f K) K cx.fuel T h f) (fun p => runX (p fx.base T) tr h f fun e h f => K e.1 e.2 h f) (cx.lps fx.id b)
  | .exit id, _, T, h, f, K => K (2 + id) T h f
  | .ret, _, T, h, f, K => K 1 T h f
  | _, _, _, _, _, _ => none

def SameC (t : Tm → Hp → Foot → EX R → Option R) (tr : Bool) (p : Tm → Prog (Nat × Tm)) : Prop := ∀ (T : Tm) (h : Hp) (f : Foot) (K : EX R), t T h f K = run (p T) tr h f fun e h f => K e.1 e.2 h f

theorem iterX_same {F : Tm → Hp → Foot → EX R → Option R} {tr : Bool} {p : Tm → Prog (Nat × Tm)} (hF : SameC F tr p) : ∀ n, SameC (fun T h f K => iterX F K n T h f) tr (iterP p n)
  | 0 => fun T h f K => rfl
  | n + 1 => fun T h f K => by
    rw [iterP, run_bind]
    change F T h f _ = _
    rw [hF]
    congr 1
    funext e h1 f1
    obtain ⟨e1, T1⟩ := e
    cases e1 with
    | zero => exact iterX_same hF n T1 h1 f1 K
    | succ m => rfl

theorem evCX_same (cx : Ctx) {cal : CalX R} {calP : FuncId → List AV → Prog AV} (hc : ∀ g a, Same (cal g a) (calP g a)) (fx : Fx) (tr : Bool) : ∀ (c : Code) (b : Nat), SameC (evCX cx cal fx tr c b) tr (evC cx calP fx b c) := by
  intro c
  induction c with
  | skip => intro b T h f K; rfl
  | region id ops d =>
    intro b T h f K
    simp only [evCX, xRegion, lookX_eq, evC]
    rw [run_bind]
    cases d
    · simp only [cond_false]
      exact seqX_same cx hc fx.n ops.toList ops.toList T tr h f _
    · simp only [cond_true]
      cases tmpsOk ops.toList 0 ops.toList
      · rfl
      · simp only [cond_true, run]
        exact drawX_same cx hc fx.n ops.toList h.c ops.toList 0 [] T tr h f _
  | seq x y ihx ihy =>
    intro b T h f K
    simp only [evCX, evC]
    rw [run_bind, ihx b]
    congr 1
    funext e h1 f1
    obtain ⟨e1, T1⟩ := e
    cases e1 with
    | zero => exact ihy b T1 h1 f1 K
    | succ m => rfl
  | cond c x y ihx ihy =>
    intro b T h f K
    simp only [evCX, xCond, getR_eq, evC]
    cases c with
    | tmp t =>
      simp only
      generalize getT T t = v
      cases v with
      | bool v =>
        simp only [run]
        cases v
        · exact ihy b _ h f K
        · exact ihx b _ h f K
      | _ => rfl
    | const u =>
      cases u with
      | bool v => cases v with
        | true => exact ihx b T h f K
        | false => exact ihy b T h f K
      | _ => rfl
    | _ => rfl
  | block id x ih =>
    intro b T h f K
    simp only [evCX, evC]
    rw [run_bind, ih id]
    rfl
  | loop x ih =>
    intro b T h f K
    simp only [evCX, evC]
    cases hl : cx.lps fx.id b with
    | some p => exact runX_eq _ _ _ _ _
    | none => exact iterX_same (ih b) cx.fuel T h f K
  | exit id => intro b T h f K; rfl
  | ret => intro b T h f K; rfl
  | _ => intro b T h f K; rfl

noncomputable def evBX (cx : Ctx) (cal : CalX R) (keep : List Nat) (g : FuncId) (fn : Func) (args : List AV) : RunX R AV := fun tr h f K =>
  match fn.body with
  | none => none
  | some c => bif leB (lenR args) fn.ntmps then evCX cx cal ⟨g, fn.ntmps, keep, h.c⟩ tr c 0 (argsT 0 args) h f fun e T h f => match e with
    | 0 | 1 => runX (resP (tiL cx.tab) T fn.results.toList fun
      | [v] => .ret v
      | vs => .ret (.tup vs)) tr h f K
    | _ => none
    else none
theorem evBX_same (cx : Ctx) {cal : CalX R} {calP : FuncId → List AV → Prog AV} (hc : ∀ g a, Same (cal g a) (calP g a)) (keep : List Nat) (g : FuncId) (fn : Func) (args : List AV) : Same (evBX cx cal keep g fn args) (evB cx calP keep g fn args) := by
  intro tr h f K
  unfold evBX evB
  rw [lenR_eq]
  cases fn.body with
  | none => rfl
  | some c =>
    simp only
    cases leB args.length fn.ntmps
    · rfl
    · simp only [cond_true, run]
      rw [run_bind, evCX_same cx hc]
      congr 1
      funext e h1 f1
      obtain ⟨e1, T1⟩ := e
      match e1 with
      | 0 => exact runX_eq _ _ _ _ _
      | 1 => exact runX_eq _ _ _ _ _
      | n + 2 => rfl
noncomputable def evFX (cx : Ctx) (keeps : FuncId → List Nat) : Nat → CalX R
  | 0, g, args => @Option.rec (List AV → Prog AV) (fun _ => RunX R AV) (fun _ _ _ _ => none) (fun p => runX (p args)) (cx.spec g)
  | n + 1, g, args => @Option.rec (List AV → Prog AV) (fun _ => RunX R AV) (@Option.rec Func (fun _ => RunX R AV) (fun _ _ _ _ => none) (fun fn => evBX (cx.at n) (evFX cx keeps n) (keeps g) g fn args) (cx.inl g)) (fun p => runX (p args)) (cx.spec g)
theorem evFX_same (cx : Ctx) (keeps : FuncId → List Nat) : ∀ (n : Nat) (g : FuncId) (a : List AV), Same (R := R) (evFX cx keeps n g a) (evF cx keeps n g a)
  | 0, g, a => by
    simp only [evFX, evF]
    cases cx.spec g with
    | none => exact Same.no
    | some p => exact Same.run _
  | n + 1, g, a => by
    simp only [evFX, evF]
    cases cx.spec g with
    | some p => exact Same.run _
    | none =>
      cases cx.inl g with
      | none => exact Same.no
      | some fn => exact evBX_same (cx.at n) (evFX_same cx keeps n) (keeps g) g fn a
end

noncomputable def evGX (cx : Ctx) (keeps : FuncId → List Nat) (n : Nat) (g : FuncId) (sh : List Sh) (rs : Sh) (x : ShDs sh) : Option (ShD rs) :=
  evFX cx keeps n g (mks sh x) false ⟨[], 0⟩ ⟨[], []⟩ fun v h f => runX (outP rs v) false h f fun d _ _ => some d
theorem evGX_eq (cx : Ctx) (keeps : FuncId → List Nat) (n : Nat) (g : FuncId) (sh : List Sh) (rs : Sh) (x : ShDs sh) : evG (evF cx keeps n g) sh rs x = evGX cx keeps n g sh rs x := by
  unfold evG evGX
  rw [run_bind, evFX_same]
  simp only [runX_eq]
noncomputable def rdX {R : Type} (cx : Ctx) (keeps : FuncId → List Nat) (n : Nat) (fx : Fx) (b : Nat) (x : Code) (base : Nat) (keep : Nat → List Nat) (T : Tm) (h : Hp) (K : Nat → Tm → Hp → Option R) : Option R :=
  evCX cx (evFX cx keeps n) fx false x b T h ⟨[], []⟩ fun e T h f => runX (.norm base (keep e) T fun T' => .ret (e, T')) false h f fun r h _ => K r.1 r.2 h
theorem rdX_eq {R : Type} (cx : Ctx) (keeps : FuncId → List Nat) (n : Nat) (fx : Fx) (b : Nat) (x : Code) (base : Nat) (keep : Nat → List Nat) (T : Tm) (h : Hp) (K : Nat → Tm → Hp → Option R) :
    roundK base keep (evC cx (evF cx keeps n) fx b x) T h K = rdX cx keeps n fx b x base keep T h K := by
  unfold roundK rdX
  rw [run_bind, evCX_same cx (evFX_same cx keeps n)]
  simp only [runX_eq]
theorem varX_ok {X Y : Type} {base0 : Nat} {keep : Nat → List Nat} {cx : Ctx} {keeps : FuncId → List Nat} {n id nt : Nat} {kp : List Nat} {b : Nat} {c : Code} {s : StS} {flat : StD s → X} {un : X → StD s} (hss : strictS s = true) (hu : ∀ d, un (flat d) = d)
    {getY : Nat → Tm → Hp → Option Y} {outY : Y → (Nat × Tm) × Hp} (hY : ∀ c T h y, getY c T h = some y → ((c, T), h) = outY y) {step : X → Option (X ⊕ Y)}
    (hs : ∀ x, rdX cx keeps n ⟨id, nt, kp, base0⟩ b c base0 keep (sT s (un x)) (sH s (un x)) (rdO (fun T h => (rdS s T h).map flat) getY) = step x) {L : X → Option Y} (hL : ∀ x y, L x = some y → ∃ n, iterO step n x = some y)
    {alt : Y → Prog (Nat × Tm)} (ha : AltOk alt outY) {next : Nat → Tm → Prog (Nat × Tm)} (hn : VarOk keep (fun base => evC cx (evF cx keeps n) ⟨id, nt, kp, base⟩ b c) next) :
    VarOk keep (fun base => evC cx (evF cx keeps n) ⟨id, nt, kp, base⟩ b c) (varP base0 (fun T h => (rdS s T h).map flat) L alt next) :=
  varP_ok hss hu hY (fun x => (rdX_eq _ _ _ _ _ _ _ _ _ _ _).trans (hs x)) hL ha hn
end
end Go.Proofs.YtmjbedjnojcmfaaDoor.Ex

namespace Go.Proofs.YtmjbedjnojcmfaaDoor.Ex
set_option linter.unusedVariables false
set_option linter.unusedSimpArgs false
abbrev I := Int × Int
def fitB (n : Int) : Bool := decide (n ≥ -2147483648) && decide (n ≤ 2147483647)
def mx (a b : Int) : Int := if b > a then b else a
theorem wrap_id {n : Int} (h : -9223372036854775808 ≤ n) (h' : n ≤ 9223372036854775807) : IntKind.i64.wrap n = n := by
  have : IntKind.i64.wrap n = (n + 9223372036854775808) % 18446744073709551616 - 9223372036854775808 := by
    simp [IntKind.wrap, IntKind.signed, IntKind.bits]
    split <;> omega
  rw [this]; omega
theorem wr {n : Int} (h : n.natAbs ≤ 4611686018427387904) : IntKind.i64.wrap n = n := wrap_id (by omega) (by omega)
theorem mod_lt {a b : Int} (hb : b ≠ 0) : (a.tmod b).natAbs < b.natAbs := by
  rw [Int.natAbs_tmod]
  exact Nat.mod_lt _ (by omega)
def doR (op a b : Int) : Int × Int :=
  if !fitB a || !fitB b || decide (op < 1) || decide (op > 5) then (0, 1) else if decide (op ≥ 4) && b == 0 then (0, 8) else
  let n := if op = 1 then a + b else if op = 2 then a - b else if op = 3 then a * b else if op = 4 then a.tdiv b else a.tmod b
  if fitB n then (n, 0) else (0, 7)
section
variable {a b c d : Int} (hx : a ≤ b) (hy : c ≤ d)
include hx hy
omit hx hy in
end
def sub (x y : I) : Prop := y.1 ≤ x.1 ∧ x.2 ≤ y.2
def hit (op p q n : Int) : Bool := (doR op p q).2 == 0 && (doR op p q).1 == n
end Go.Proofs.YtmjbedjnojcmfaaDoor.Ex

namespace Go.Proofs.YtmjbedjnojcmfaaDoor.Ex
set_option linter.unusedSectionVars false
set_option linter.unusedVariables false
section
variable [RT]
end
end Go.Proofs.YtmjbedjnojcmfaaDoor.Ex

namespace Go.Proofs.YtmjbedjnojcmfaaDoor.Ex
set_option linter.unusedVariables false
abbrev A := Int × Int × Int × Int × Int × Int × Int × Int × Int
abbrev C := Int × List A
abbrev tGb : Ty := (.st (.pair .str (.int .i64)))
abbrev Gb := ByteArray × Int
abbrev tX : Ty := (.st (.pair (.int .i64) (.pair (.int .i64) (.pair (.int .i64) (.pair .str (.sl (.mu 0)))))))
abbrev Xp := Int × Int × Int × ByteArray × List T0
abbrev tCd : Ty := (.st (.pair (.int .i64) (.pair (.int .i64) (.pair (.sl (.mu 0)) (.sl (.mu 1))))))
abbrev Cd := Int × Int × List T0 × List T1
abbrev tSm : Ty := (.st (.pair (.int .i64) (.pair .str (.pair tX (.pair tX (.pair tCd (.pair (.sl (.mu 2)) (.sl (.mu 2)))))))))
abbrev Stm := Int × ByteArray × Xp × Xp × Cd × List T2 × List T2
abbrev tTh : Ty := (.st (.pair .str (.pair (.sl .str) (.sl (.mu 2)))))
abbrev Th := ByteArray × List ByteArray × List T2
abbrev tPg : Ty := (.st (.pair (.sl tGb) (.pair (.sl tGb) (.pair (.sl .str) (.sl tTh)))))
abbrev Pg := List Gb × List Gb × List ByteArray × List Th
abbrev uT0 (x : T0) : Xp := trU 0 x
abbrev uT1 (x : T1) : Cd := trU 1 x
abbrev uT2 (x : T2) : Stm := trU 2 x
noncomputable def bodyX (g b : Nat) : Code := ((inl g).bind (·.body)).elim .skip (lpx · b)
abbrev FUEL : Nat := 18446744073709551616
theorem loops_in {b : Nat} {x : Code} : ∀ (c : Code) (b0 : Nat), (b, x) ∈ loopsOf b0 c → ∀ q ∈ loopsOf b x, q ∈ loopsOf b0 c
  | .seq y z, b0, h, q, hq => by
    simp only [loopsOf, List.mem_append] at h ⊢
    exact h.imp (fun h => loops_in y b0 h q hq) (fun h => loops_in z b0 h q hq)
  | .cond _ y z, b0, h, q, hq => by
    simp only [loopsOf, List.mem_append] at h ⊢
    exact h.imp (fun h => loops_in y b0 h q hq) (fun h => loops_in z b0 h q hq)
  | .block id y, b0, h, q, hq => by
    simp only [loopsOf] at h ⊢
    exact loops_in y id h q hq
  | .loop y, b0, h, q, hq => by
    simp only [loopsOf, List.mem_cons, Prod.mk.injEq] at h ⊢
    rcases h with ⟨rfl, rfl⟩ | h
    · exact .inr hq
    · exact .inr (loops_in y b0 h q hq)
theorem hl_of {P : Program} {cx : Ctx} {g b n : Nat} (hi : InlOk P cx) (hx : cx.inl = inl) (hk : ((inl g).elim false fun fn => fn.ntmps.beq n && fn.body.elim false fun c => ((loopsOf 0 c).find? fun q => Nat.beq q.1 b).isSome) = true) :
    ∀ q ∈ loopsOf b (bodyX g b), ∀ p, cx.lps g q.1 = some p → SoundC P n (.loop q.2) p := by
  intro q hq p hp
  unfold bodyX at hq
  cases hg : inl g with
  | none => rw [hg] at hk; cases hk
  | some fn =>
    rw [hg] at hk hq
    simp only [Option.elim_some, Option.bind_some, Bool.and_eq_true] at hk hq
    obtain ⟨hn, hk⟩ := hk
    obtain rfl := nb_iff.1 hn
    cases hb : fn.body with
    | none => rw [hb] at hk; cases hk
    | some c =>
      rw [hb] at hk hq
      simp only [Option.elim_some] at hk hq
      unfold lpx at hq
      cases hf : (loopsOf 0 c).find? fun q => Nat.beq q.1 b with
      | none => rw [hf] at hk; cases hk
      | some r =>
        rw [hf] at hq
        simp only at hq
        have h1 := List.mem_of_find?_eq_some hf
        have h2 := List.find?_some hf
        obtain ⟨k, x⟩ := r
        simp only at h2 hq
        obtain rfl := nb_iff.1 h2
        exact hi.lps g fn c (by rw [hx]; exact hg) hb q (loops_in c 0 h1 q hq) p hp
open Go.Proofs Go.Proofs.YtmjbedjnojcmfaaDoor
set_option maxRecDepth 100000
noncomputable def ndB (g : Nat) : Bool := ((inl g).bind (·.body)).elim false (fun c => nodupN ((loopsOf 0 c).map (·.1)))
structure Con where
  g : Nat
  p : List AV → Prog AV
  s : SoundA Tryd.prog g p
noncomputable def spL : List Con → Nat → Option (List AV → Prog AV)
  | [], _ => none
  | c :: r, g => bif c.g.beq g then some c.p else spL r g
theorem hspL : ∀ (l : List Con) (g : Nat) (p : List AV → Prog AV), spL l g = some p → SoundA Tryd.prog g p
  | [], _, _, h => nomatch h
  | c :: r, g, p, h => by
    unfold spL at h
    cases e : c.g.beq g
    · rw [e] at h; exact hspL r g p h
    · rw [e] at h
      cases h
      obtain rfl := Nat.eq_of_beq_eq_true e
      exact c.s
structure Lpc where
  g : Nat
  b : Nat
  n : Nat
  p : Nat → Tm → Prog (Nat × Tm)
  d : ndB g = true
  e : (inl g).elim 0 (·.ntmps) = n
  s : SoundC Tryd.prog n (.loop (bodyX g b)) p
noncomputable def lpL : List Lpc → Nat → Nat → Option (Nat → Tm → Prog (Nat × Tm))
  | [], _, _ => none
  | c :: r, g, b => bif c.g.beq g && c.b.beq b then some c.p else lpL r g b
theorem lpL_some : ∀ (l : List Lpc) (g b : Nat) (p : Nat → Tm → Prog (Nat × Tm)), lpL l g b = some p → ∃ c : Lpc, c.g = g ∧ c.b = b ∧ c.p = p
  | [], _, _, _, h => nomatch h
  | c :: r, g, b, p, h => by
    unfold lpL at h
    cases e : (c.g.beq g && c.b.beq b)
    · rw [e] at h; exact lpL_some r g b p h
    · rw [e] at h
      cases h
      simp only [Bool.and_eq_true] at e
      exact ⟨c, Nat.eq_of_beq_eq_true e.1, Nat.eq_of_beq_eq_true e.2, rfl⟩
noncomputable def cxU (sp : List Con) (lp : List Lpc) (fu sn : Nat) : Ctx := { tab := tab, spec := spL sp, inl := inl, lps := lpL lp, fuel := fu, spn := sn, vr := Nat.beq (sn % 2) 1 }
theorem inU (sp : List Con) (lp : List Lpc) (fu sn : Nat) : InlOk Tryd.prog (cxU sp lp fu sn) := ⟨inl_ok, fun g fn c hg hb q hq p hp => by
  change lpL lp g q.1 = some p at hp
  change inl g = some fn at hg
  obtain ⟨l, e1, e2, rfl⟩ := lpL_some lp g q.1 p hp
  subst e1
  exact lps_case (inl := inl) hg hb hq e2.symm l.d l.e l.s⟩
theorem calU (sp : List Con) (lp : List Lpc) (fu sn D g : Nat) : SoundA Tryd.prog g (evF (cxU sp lp fu sn) keeps D g) := evF_sound (tabOk_of tab_ok) (cmpsOk_of tab_ok cmps_ok) mixed (inU sp lp fu sn) (hspL sp) keeps D g
noncomputable def lpB (g b n : Nat) : Bool := (inl g).elim false fun fn => fn.ntmps.beq n && fn.body.elim false fun c => ((loopsOf 0 c).find? fun q => Nat.beq q.1 b).isSome
theorem loopU (sp : List Con) (lp : List Lpc) (fu sn D : Nat) {g b n : Nat} {keep : Nat → List Nat} {q : Nat → Tm → Prog (Nat × Tm)} (hk : lpB g b n = true)
    (ok : VarOk keep (fun base => evC (cxU sp lp fu sn) (evF (cxU sp lp fu sn) keeps D) ⟨g, n, keeps g, base⟩ b (bodyX g b)) q) : SoundC Tryd.prog n (.loop (bodyX g b)) (fun base T => .norm base (keep 0) T (q base)) :=
  loopK_sound (cx := cxU sp lp fu sn) (cal := evF (cxU sp lp fu sn) keeps D) (kp := keeps g) (tabOk_of tab_ok) (cmpsOk_of tab_ok cmps_ok) (calU sp lp fu sn D) mixed (hl_of (g := g) (b := b) (inU sp lp fu sn) rfl hk) ok
end Go.Proofs.YtmjbedjnojcmfaaDoor.Ex

namespace Go.Proofs.YtmjbedjnojcmfaaDoor.Ex
set_option linter.unusedSectionVars false
section
variable [RT]

theorem law_con {sh : List Sh} {G : ShDs sh → Option Bool} {args : List AV} {x : ShDs sh} (h1 : rds sh args = some x) (h2 : AV.idsL args = []) (h3 : G x = some true) :
    ∃ fb, ex ((conP true sh (.dat .bool) G args).bind (finP true)) false ⟨[], 0⟩ ⟨[], []⟩ = some (.bool true, ⟨[], 0⟩, fb) := by
  refine ⟨⟨[], []⟩, ?_⟩
  unfold ex conP
  rw [frzL_free true args _ h2, h1]
  simp only [Prog.bind, run, Option.bind_some]
  exact (congrArg (fun o => Option.bind o _) h3).trans (finP_free _ rfl _ _ _)
end
end Go.Proofs.YtmjbedjnojcmfaaDoor.Ex

namespace Go.Proofs.YtmjbedjnojcmfaaDoor.Ex
open Go.Proofs Go.Proofs.YtmjbedjnojcmfaaDoor
set_option maxRecDepth 100000
set_option maxHeartbeats 2000000
set_option linter.unusedVariables false
set_option linter.unusedSimpArgs false
def ash_check_fits : List Sh := [.dat tPg]
def kp_check_fits_63_0 : Nat → List Nat := fun c => bif c.beq 0 then [0, 1, 7, 8] else [4]
noncomputable def sp_check_fits : List Con := []
def s_check_fits_63_0_0 : StS := ⟨[(0, .sl tTh), (1, .clo 35 [] [.ptr 1 0]), (7, .int .i64), (8, .int .i64)], [(1, .box [.clo 21 [] []]), (0, .box [.sl tGb, .sl tGb, .sl .str, .sl tTh])], 2⟩
def x_check_fits_63_0_0_0 : StS := ⟨[(4, .undef)], [(1, .box [.clo 21 [] []]), (0, .box [.sl tGb, .sl tGb, .sl .str, .sl tTh])], 2⟩
def x_check_fits_63_0_0_1 : StS := ⟨[(4, .int .i64)], [(1, .box [.clo 21 [] []]), (0, .box [.sl tGb, .sl tGb, .sl .str, .sl tTh])], 2⟩
abbrev X_check_fits_63_0_0 := ((List Th) × Int × Int × (List Gb) × (List Gb) × (List ByteArray) × (List Th))
def fl_check_fits_63_0_0 (d : StD s_check_fits_63_0_0) : X_check_fits_63_0_0 := (d.1.1, d.1.2.2.1, d.1.2.2.2.1, d.2.2.1.1, d.2.2.1.2.1, d.2.2.1.2.2.1, d.2.2.1.2.2.2.1)
def un_check_fits_63_0_0 (x : X_check_fits_63_0_0) : StD s_check_fits_63_0_0 := ((x.1, ((), ((), ())), x.2.1, x.2.2.1, ()), ((((), ()), ()), (x.2.2.2.1, x.2.2.2.2.1, x.2.2.2.2.2.1, x.2.2.2.2.2.2, ()), ()))
abbrev X_check_fits_63_0_0_0 := ((List Gb) × (List Gb) × (List ByteArray) × (List Th))
def fl_check_fits_63_0_0_0 (d : StD x_check_fits_63_0_0_0) : X_check_fits_63_0_0_0 := (d.2.2.1.1, d.2.2.1.2.1, d.2.2.1.2.2.1, d.2.2.1.2.2.2.1)
def un_check_fits_63_0_0_0 (x : X_check_fits_63_0_0_0) : StD x_check_fits_63_0_0_0 := (((), ()), ((((), ()), ()), (x.1, x.2.1, x.2.2.1, x.2.2.2, ()), ()))
abbrev X_check_fits_63_0_0_1 := (Int × (List Gb) × (List Gb) × (List ByteArray) × (List Th))
def fl_check_fits_63_0_0_1 (d : StD x_check_fits_63_0_0_1) : X_check_fits_63_0_0_1 := (d.1.1, d.2.2.1.1, d.2.2.1.2.1, d.2.2.1.2.2.1, d.2.2.1.2.2.2.1)
def un_check_fits_63_0_0_1 (x : X_check_fits_63_0_0_1) : StD x_check_fits_63_0_0_1 := ((x.1, ()), ((((), ()), ()), (x.2.1, x.2.2.1, x.2.2.2.1, x.2.2.2.2, ()), ()))
noncomputable def st_check_fits_63_0_0 (s0 : (List Th)) (s7 : Int) (s8 : Int) (b0 : (List Gb)) (b0_1 : (List Gb)) (b0_2 : (List ByteArray)) (b0_3 : (List Th)) : Option (((List Th) × Int × Int × (List Gb) × (List Gb) × (List ByteArray) × (List Th)) ⊕ (((List Gb) × (List Gb) × (List ByteArray) × (List Th)) ⊕ (Int × (List Gb) × (List Gb) × (List ByteArray) × (List Th)))) :=
  bif decide (s8 < s7) then
 bif decide (0 ≤ s8) then
 optC s0[s8.toNat]? none fun d9 ↦
 bif !decide ((↑(List.length d9.2.1) : Int) ≤ 6) then some (Sum.inr (Sum.inr (s8, b0, b0_1, b0_2, b0_3)))
 else some (Sum.inl (s0, s7, Go.IntKind.i64.wrap (s8 + 1), b0, b0_1, b0_2, b0_3))
 else none
 else some (Sum.inr (Sum.inl (b0, b0_1, b0_2, b0_3)))
noncomputable def sx_check_fits_63_0_0 (x : X_check_fits_63_0_0) : Option (X_check_fits_63_0_0 ⊕ (X_check_fits_63_0_0_0 ⊕ X_check_fits_63_0_0_1)) := st_check_fits_63_0_0 x.1 x.2.1 x.2.2.1 x.2.2.2.1 x.2.2.2.2.1 x.2.2.2.2.2.1 x.2.2.2.2.2.2
theorem rn_check_fits_63_0_0 (x : X_check_fits_63_0_0) : rdX (cxU sp_check_fits [] 40 1048576) keeps 8 ⟨63, 19, keeps 63, 2⟩ 0 (bodyX 63 0) 2 kp_check_fits_63_0 (sT s_check_fits_63_0_0 (un_check_fits_63_0_0 x)) (sH s_check_fits_63_0_0 (un_check_fits_63_0_0 x)) (rdO (fun T h => (rdS s_check_fits_63_0_0 T h).map fl_check_fits_63_0_0) (getOr (getE 2 x_check_fits_63_0_0_0 fl_check_fits_63_0_0_0) (getE 1 x_check_fits_63_0_0_1 fl_check_fits_63_0_0_1))) = sx_check_fits_63_0_0 x := by kernel_rfl
noncomputable def L_check_fits_63_0_0 (x : X_check_fits_63_0_0) : Option (X_check_fits_63_0_0_0 ⊕ X_check_fits_63_0_0_1) := iterO (fun x => st_check_fits_63_0_0 x.1 x.2.1 x.2.2.1 x.2.2.2.1 x.2.2.2.2.1 x.2.2.2.2.2.1 x.2.2.2.2.2.2) FUEL x
noncomputable def q_check_fits_63_0 : Nat → Tm → Prog (Nat × Tm) := (varP 2 (fun T h => (rdS s_check_fits_63_0_0 T h).map fl_check_fits_63_0_0) L_check_fits_63_0_0 (fun y => .alt y (altE 2 x_check_fits_63_0_0_0 un_check_fits_63_0_0_0) (altE 1 x_check_fits_63_0_0_1 un_check_fits_63_0_0_1)) (fun _ _ => .fail))
noncomputable def lc_check_fits_63_0 : Lpc := ⟨63, 0, 19, (fun base T => .norm base (kp_check_fits_63_0 0) T (q_check_fits_63_0 base)), by kernel_rfl, by kernel_rfl, (loopU sp_check_fits [] 40 1048576 8 (keep := kp_check_fits_63_0) (q := q_check_fits_63_0) (by kernel_rfl) (varX_ok (s := s_check_fits_63_0_0) (un := un_check_fits_63_0_0) (by rfl) (fun _ => rfl) (getOr_ok (getE_ok (s := x_check_fits_63_0_0_0) (un := un_check_fits_63_0_0_0) (by rfl) (fun _ => rfl)) (getE_ok (s := x_check_fits_63_0_0_1) (un := un_check_fits_63_0_0_1) (by rfl) (fun _ => rfl))) (step := sx_check_fits_63_0_0) rn_check_fits_63_0_0 (fun _ _ e => ⟨_, e⟩) (altOr_ok (altE_ok 2 x_check_fits_63_0_0_0 un_check_fits_63_0_0_0) (altE_ok 1 x_check_fits_63_0_0_1 un_check_fits_63_0_0_1)) (VarOk.fail _ _)))⟩
noncomputable def g_check_fits (a0 : Pg) : Option Bool :=
  bif decide ((↑(List.length a0.1) : Int) ≤ 6) then
 bif decide ((↑(List.length a0.2.1) : Int) ≤ 3) then
 bif decide ((↑(List.length a0.2.2.1) : Int) ≤ 6) then
 bif decide ((↑(List.length a0.2.2.2) : Int) ≤ 4) then
 optC (L_check_fits_63_0_0 (a0.2.2.2, (↑(List.length a0.2.2.2) : Int), 0, a0)) none fun d3 ↦
 Sum.elim (fun e4 ↦ some !decide (-1 ≥ 0)) (fun e4 ↦ some !decide (e4.1 ≥ 0)) d3
 else some false
 else some false
 else some false
 else some false
theorem raw_check_fits (a0 : Pg) : evGX (cxU sp_check_fits [lc_check_fits_63_0] 40 1048576) keeps 8 10 ash_check_fits (.dat .bool) ((a0, ()) : (Pg × Unit)) = g_check_fits a0 := by kernel_rfl
noncomputable def G_check_fits (x : (Pg × Unit)) : Option Bool := g_check_fits x.1
noncomputable def con_check_fits : List AV → Prog AV := conP false ash_check_fits (.dat .bool) G_check_fits
theorem snd_check_fits : SoundA Tryd.prog 10 con_check_fits := conP_sound (calU sp_check_fits [lc_check_fits_63_0] 40 1048576 8 10) false (by rfl) (by rfl) (fun x r e => (evGX_eq _ _ _ _ _ _ _).trans ((raw_check_fits x.1).trans e)) (.inr fun _ => rfl)
end Go.Proofs.YtmjbedjnojcmfaaDoor.Ex

namespace Go.Proofs.YtmjbedjnojcmfaaDoor.Ex
open Go.Proofs Go.Shelf Go.Proofs.YtmjbedjnojcmfaaDoor
def lays137_ren_D : Go.Shelf.Ren := ⟨fun | 137 => 57 | 217 => 77 | 266 => 91 | n => n, fun | 9 => 9 | 5 => 5 | 3 => 3 | n => n, fun | n => n⟩
theorem lays137_D : Go.Proofs.Lays.n137 Tryd.prog lays137_ren_D := {
  mixed := by kernel_rfl
  f137 := Tryd.func57.trans (congrArg some (by kernel_rfl))
  f217 := Tryd.func77.trans (congrArg some (by kernel_rfl))
  f266 := Tryd.func91.trans (congrArg some (by kernel_rfl))
  t3 := Tryd.underlying3
  a3 := Tryd.isAgg3
  z3 := Tryd.sizeOf3
  v3 := Tryd.zeroValue3
  t5 := Tryd.underlying5
  a5 := Tryd.isAgg5
  z5 := Tryd.sizeOf5
  v5 := Tryd.zeroValue5
  t9 := Tryd.underlying9
  a9 := Tryd.isAgg9
  z9 := Tryd.sizeOf9
  v9 := Tryd.zeroValue9 }
open Go.RowKit in
theorem strings_IndexByte_D (s : ByteArray) (c : Int) (w : World) :
    Calls Tryd.prog 57 #[.string s, .int .u8 c] w fun e w' => e = .returned (.int .i64 (Lib.indexByte s.data.toList c.toNat.toUInt8)) ∧ w' = w := Any.strings_IndexByte lays137_D s c w
def lays160_ren_D : Go.Shelf.Ren := ⟨fun | 160 => 58 | 232 => 79 | 231 => 78 | 227 => 80 | 234 => 82 | 233 => 81 | 236 => 84 | 235 => 83 | 228 => 92 | 271 => 95 | 151 => 94 | 197 => 93 | 120 => 100 | 152 => 99 | 260 => 98 | 137 => 57 | 119 => 101 | 224 => 102 | 225 => 103 | 217 => 77 | 266 => 91 | n => n, fun | 9 => 9 | 4 => 4 | 3 => 3 | 5 => 5 | 117 => 95 | 116 => 94 | 0 => 0 | 124 => 98 | 21 => 21 | 105 => 101 | 46 => 108 | 119 => 107 | 139 => 111 | 138 => 110 | n => n, fun | 3 => 1 | 4 => 2 | n => n⟩
theorem lays160_D : Go.Proofs.Lays.n160 Tryd.prog lays160_ren_D := {
  mixed := by kernel_rfl
  f119 := Tryd.func101.trans (congrArg some (by kernel_rfl))
  f120 := Tryd.func100.trans (congrArg some (by kernel_rfl))
  f137 := Tryd.func57.trans (congrArg some (by kernel_rfl))
  f151 := Tryd.func94.trans (congrArg some (by kernel_rfl))
  f152 := Tryd.func99.trans (congrArg some (by kernel_rfl))
  f160 := Tryd.func58.trans (congrArg some (by kernel_rfl))
  f197 := Tryd.func93.trans (congrArg some (by kernel_rfl))
  f217 := Tryd.func77.trans (congrArg some (by kernel_rfl))
  f224 := Tryd.func102.trans (congrArg some (by kernel_rfl))
  f225 := Tryd.func103.trans (congrArg some (by kernel_rfl))
  f227 := Tryd.func80.trans (congrArg some (by kernel_rfl))
  f228 := Tryd.func92.trans (congrArg some (by kernel_rfl))
  f231 := Tryd.func78.trans (congrArg some (by kernel_rfl))
  f232 := Tryd.func79.trans (congrArg some (by kernel_rfl))
  f233 := Tryd.func81.trans (congrArg some (by kernel_rfl))
  f234 := Tryd.func82.trans (congrArg some (by kernel_rfl))
  f235 := Tryd.func83.trans (congrArg some (by kernel_rfl))
  f236 := Tryd.func84.trans (congrArg some (by kernel_rfl))
  f260 := Tryd.func98.trans (congrArg some (by kernel_rfl))
  f266 := Tryd.func91.trans (congrArg some (by kernel_rfl))
  f271 := Tryd.func95.trans (congrArg some (by kernel_rfl))
  t0 := Tryd.underlying0
  a0 := Tryd.isAgg0
  z0 := Tryd.sizeOf0
  v0 := Tryd.zeroValue0
  t3 := Tryd.underlying3
  a3 := Tryd.isAgg3
  z3 := Tryd.sizeOf3
  v3 := Tryd.zeroValue3
  t4 := Tryd.underlying4
  a4 := Tryd.isAgg4
  z4 := Tryd.sizeOf4
  v4 := Tryd.zeroValue4
  t5 := Tryd.underlying5
  a5 := Tryd.isAgg5
  z5 := Tryd.sizeOf5
  v5 := Tryd.zeroValue5
  t9 := Tryd.underlying9
  a9 := Tryd.isAgg9
  z9 := Tryd.sizeOf9
  v9 := Tryd.zeroValue9
  t21 := Tryd.underlying21
  a21 := Tryd.isAgg21
  z21 := Tryd.sizeOf21
  v21 := Tryd.zeroValue21
  t46 := Tryd.underlying108
  a46 := Tryd.isAgg108
  z46 := Tryd.sizeOf108
  v46 := Tryd.zeroValue108
  t105 := Tryd.underlying101
  a105 := Tryd.isAgg101
  z105 := Tryd.sizeOf101
  v105 := Tryd.zeroValue101
  t116 := Tryd.underlying94
  a116 := Tryd.isAgg94
  z116 := Tryd.sizeOf94
  t117 := Tryd.underlying95
  a117 := Tryd.isAgg95
  z117 := Tryd.sizeOf95
  v117 := Tryd.zeroValue95
  t119 := Tryd.underlying107
  a119 := Tryd.isAgg107
  z119 := Tryd.sizeOf107
  t124 := Tryd.underlying98
  a124 := Tryd.isAgg98
  z124 := Tryd.sizeOf98
  v124 := Tryd.zeroValue98
  t138 := Tryd.underlying110
  a138 := Tryd.isAgg110
  z138 := Tryd.sizeOf110
  v138 := Tryd.zeroValue110
  t139 := Tryd.underlying111
  a139 := Tryd.isAgg111
  z139 := Tryd.sizeOf111
  v139 := Tryd.zeroValue111
  g3 := by kernel_rfl
  g4 := by kernel_rfl }
open Go.RowKit in
theorem strings_Trim_D (s c : ByteArray) (w : World) (hs : s.size ≤ 9223372036854775807) (hc : c.size < 4294967281) (ha : ∀ (j : Nat) b, c.data.toList[j]? = some b → b.toNat < 128) :
    Calls Tryd.prog 58 #[.string s, .string c] w fun e w' => e = .returned (.string ⟨(Lib.trimS s.data.toList c.data.toList).toArray⟩) ∧ Below w.heap.size w w' := Any.strings_Trim_laid lays160_D (by kernel_rfl) s c w hs hc ha
end Go.Proofs.YtmjbedjnojcmfaaDoor.Ex

namespace Go.Proofs.YtmjbedjnojcmfaaDoor.Ex
set_option linter.unusedVariables false
set_option linter.unusedSectionVars false
section
variable [RT] {P : Program}
theorem post_below {tr : Bool} {ok : Nat → Prop} {hdr : Nat → Value} {S : Stb} {h : Hp} {w w' : World} (hr : HReal hdr S h.blks w) (hm : Ment ok h.blks) (hb : RowKit.Below w.heap.size w w') : Post tr ok hdr S h w hdr S h w' :=
  ⟨Nat.le_refl _, fun _ _ => rfl, ⟨fun id b hf => (hr.blk id b hf).congr (fun _ _ k => k) rfl (fun _ _ => rfl) fun n hn => hb.block n ((hr.blk id b hf).lt hn), hr.sep, hr.stb, fun n cs k => let ⟨e, f, q⟩ := hr.mem n cs k; ⟨e, f, (hb.block n (hr.stb_lt k)).trans q⟩⟩,
    ⟨hb.os, hb.tape, hb.output, hb.size, fun n hn _ => hb.block n hn, fun n h => .inl h, fun _ _ k => k, fun _ _ k => .inl k⟩, hm.mono fun _ k => .inl k⟩
def trimV (s c : ByteArray) : ByteArray := ⟨(Lib.trimS s.data.toList c.data.toList).toArray⟩
def trimP (args : List AV) : Prog AV := match args with
  | [.str s, .str c] => .ite (decide (s.size ≤ 9223372036854775807)) (bif leB c.size 1000 && c.data.toList.all (fun b => decide (b.toNat < 128)) then .ret (.str (trimV s c)) else .fail) .fail
  | _ => .fail
theorem trim_sound {g : FuncId} (hcall : Callable P g) (hc : ∀ (s c : ByteArray) (w : World), s.size ≤ 9223372036854775807 → c.size < 4294967281 → (∀ (j : Nat) b, c.data.toList[j]? = some b → b.toNat < 128) →
    Calls P g #[.string s, .string c] w fun e w' => e = .returned (.string ⟨(Lib.trimS s.data.toList c.data.toList).toArray⟩) ∧ RowKit.Below w.heap.size w w') : SoundA P g trimP := by
  intro tr args h ft v h' ft' vals hdr S w ok e hr hm hv hi hO
  refine ⟨hcall, ?_⟩
  unfold trimP at e
  split at e
  case h_2 => exact (ex_fail e).elim
  rename_i s c
  rcases ex_ite e with ⟨h1, e⟩ | ⟨_, e⟩
  case inr => exact (ex_fail e).elim
  have h1 := of_decide_eq_true h1
  rcases ex_cond e with ⟨h2, e⟩ | ⟨_, e⟩
  case inr => exact (ex_fail e).elim
  simp only [Bool.and_eq_true] at h2
  have hcs := leB_iff.1 h2.1
  cases ex_ret e
  cases hv with | cons _ _ _ _ ha hv =>
  cases hv with | cons _ _ _ _ hb hv =>
  cases hv
  cases ha
  cases hb
  refine (hc s c w h1 (by omega) fun j b hj => of_decide_eq_true (List.all_eq_true.1 h2.2 b (List.mem_of_getElem? hj))).mono ?_
  rintro en w' ⟨rfl, hB⟩
  exact ⟨_, hdr, S, rfl, post_below hr hm hB, .str _, fun n hn => by cases hn⟩
def idxBP (args : List AV) : Prog AV := match args with
  | [.str s, .int .u8 c] => .ret (.int .i64 (Lib.indexByte s.data.toList c.toNat.toUInt8))
  | _ => .fail
theorem idxB_sound {g : FuncId} (hcall : Callable P g) (hc : ∀ (s : ByteArray) (c : Int) (w : World), Calls P g #[.string s, .int .u8 c] w fun e w' => e = .returned (.int .i64 (Lib.indexByte s.data.toList c.toNat.toUInt8)) ∧ w' = w) : SoundA P g idxBP := by
  intro tr args h ft v h' ft' vals hdr S w ok e hr hm hv hi hO
  refine ⟨hcall, ?_⟩
  unfold idxBP at e
  split at e
  case h_2 => exact (ex_fail e).elim
  rename_i s c
  cases ex_ret e
  cases hv with | cons _ _ _ _ ha hv =>
  cases hv with | cons _ _ _ _ hb hv =>
  cases hv
  cases ha
  cases hb
  refine (hc s c w).mono ?_
  rintro en w' ⟨rfl, rfl⟩
  exact ⟨_, hdr, S, rfl, Post.refl hr hm, .int _ _, fun n hn => by cases hn⟩
end
end Go.Proofs.YtmjbedjnojcmfaaDoor.Ex

namespace Go.Proofs.YtmjbedjnojcmfaaDoor.Ex
open Go.Proofs Go.Proofs.YtmjbedjnojcmfaaDoor
set_option maxRecDepth 100000
theorem call_Tryd58 : Callable Tryd.prog 58 := by
  have hbody : ∃ c, Tryd.f58.body = some c := ⟨_, rfl⟩
  obtain ⟨c0, hb0⟩ := hbody
  exact fun args w => MuLone.run_callFunc_enter Tryd.func58 (by kernel_rfl) hb0 args w
theorem call_Tryd57 : Callable Tryd.prog 57 := by
  have hbody : ∃ c, Tryd.f57.body = some c := ⟨_, rfl⟩
  obtain ⟨c0, hb0⟩ := hbody
  exact fun args w => MuLone.run_callFunc_enter Tryd.func57 (by kernel_rfl) hb0 args w
noncomputable def con_Trim : List AV → Prog AV := trimP
theorem snd_Trim : SoundA Tryd.prog 58 con_Trim := trim_sound call_Tryd58 fun s c w h1 h2 h3 => strings_Trim_D s c w h1 h2 h3
noncomputable def con_IndexByte : List AV → Prog AV := idxBP
theorem snd_IndexByte : SoundA Tryd.prog 57 con_IndexByte := idxB_sound call_Tryd57 fun s c w => strings_IndexByte_D s c w
end Go.Proofs.YtmjbedjnojcmfaaDoor.Ex

namespace Go.Proofs.YtmjbedjnojcmfaaDoor.Ex
open Go.Proofs Go.Proofs.YtmjbedjnojcmfaaDoor
set_option maxRecDepth 100000
set_option maxHeartbeats 2000000
set_option linter.unusedVariables false
set_option linter.unusedSimpArgs false
def ash_check_isName : List Sh := [.dat .str]
noncomputable def sp_check_isName : List Con := [⟨57, con_IndexByte, snd_IndexByte⟩, ⟨58, con_Trim, snd_Trim⟩]
noncomputable def g_check_isName (a0 : ByteArray) : Option Bool :=
  bif !a0.toList == (ByteArray.mk #[]).toList then
 bif decide ((↑a0.size : Int) ≤ 8) then
 optC a0[Int.toNat (0 : Int)]? none fun d2 ↦
 bif
 decide
 (Go.Lib.indexByte (ByteArray.mk #[97, 98, 99, 100, 101, 102, 103, 104, 105, 106, 107, 108, 109, 110, 111, 112, 113, 114, 115, 116, 117, 118, 119, 120, 121, 122]).data.toList
 (↑d2.toNat : Int).toNat.toUInt8 ≥
 0) then
 bif decide (a0.size ≤ 9223372036854775807) then
 some
 ((trimV a0
 (ByteArray.mk
 #[97, 98, 99, 100, 101, 102, 103, 104, 105, 106, 107, 108, 109, 110, 111, 112, 113, 114, 115, 116, 117, 118, 119, 120, 121, 122, 48, 49, 50, 51, 52, 53, 54, 55, 56, 57])).toList ==
 (ByteArray.mk #[]).toList)
 else none
 else some false
 else some false
 else some false
theorem raw_check_isName (a0 : ByteArray) : evGX (cxU sp_check_isName [] 40 1048576) keeps 8 25 ash_check_isName (.dat .bool) ((a0, ()) : (ByteArray × Unit)) = g_check_isName a0 := by kernel_rfl
noncomputable def G_check_isName (x : (ByteArray × Unit)) : Option Bool := g_check_isName x.1
noncomputable def con_check_isName : List AV → Prog AV := conP false ash_check_isName (.dat .bool) G_check_isName
theorem snd_check_isName : SoundA Tryd.prog 25 con_check_isName := conP_sound (calU sp_check_isName [] 40 1048576 8 25) false (by rfl) (by rfl) (fun x r e => (evGX_eq _ _ _ _ _ _ _).trans ((raw_check_isName x.1).trans e)) (.inr fun _ => rfl)
end Go.Proofs.YtmjbedjnojcmfaaDoor.Ex

namespace Go.Proofs.YtmjbedjnojcmfaaDoor.Ex
open Go.Proofs Go.Proofs.YtmjbedjnojcmfaaDoor
set_option maxRecDepth 100000
set_option maxHeartbeats 2000000
set_option linter.unusedVariables false
set_option linter.unusedSimpArgs false
def ash_check_areNames : List Sh := [.dat (.sl .str)]
def kp_check_areNames_75_0 : Nat → List Nat := fun c => bif c.beq 0 then [0, 1, 7, 8] else [4]
noncomputable def sp_check_areNames : List Con := [⟨25, con_check_isName, snd_check_isName⟩]
def s_check_areNames_75_0_0 : StS := ⟨[(0, .sl .str), (1, .clo 54 [] []), (7, .int .i64), (8, .int .i64)], [], 0⟩
def x_check_areNames_75_0_0_0 : StS := ⟨[(4, .undef)], [], 0⟩
def x_check_areNames_75_0_0_1 : StS := ⟨[(4, .int .i64)], [], 0⟩
abbrev X_check_areNames_75_0_0 := ((List ByteArray) × Int × Int)
def fl_check_areNames_75_0_0 (d : StD s_check_areNames_75_0_0) : X_check_areNames_75_0_0 := (d.1.1, d.1.2.2.1, d.1.2.2.2.1)
def un_check_areNames_75_0_0 (x : X_check_areNames_75_0_0) : StD s_check_areNames_75_0_0 := ((x.1, ((), ()), x.2.1, x.2.2, ()), ())
abbrev X_check_areNames_75_0_0_0 := Unit
def fl_check_areNames_75_0_0_0 (d : StD x_check_areNames_75_0_0_0) : X_check_areNames_75_0_0_0 := ()
def un_check_areNames_75_0_0_0 (x : X_check_areNames_75_0_0_0) : StD x_check_areNames_75_0_0_0 := (((), ()), ())
abbrev X_check_areNames_75_0_0_1 := Int
def fl_check_areNames_75_0_0_1 (d : StD x_check_areNames_75_0_0_1) : X_check_areNames_75_0_0_1 := (d.1.1)
def un_check_areNames_75_0_0_1 (x : X_check_areNames_75_0_0_1) : StD x_check_areNames_75_0_0_1 := ((x, ()), ())
noncomputable def st_check_areNames_75_0_0 (s0 : (List ByteArray)) (s7 : Int) (s8 : Int) : Option (((List ByteArray) × Int × Int) ⊕ (Unit ⊕ Int)) :=
  bif decide (s8 < s7) then
 bif decide (0 ≤ s8) then
 optC s0[s8.toNat]? none fun d5 ↦
 optC (G_check_isName (d5, ())) none fun d6 ↦ bif !d6 then some (Sum.inr (Sum.inr s8)) else some (Sum.inl (s0, s7, Go.IntKind.i64.wrap (s8 + 1)))
 else none
 else some (Sum.inr (Sum.inl PUnit.unit))
noncomputable def sx_check_areNames_75_0_0 (x : X_check_areNames_75_0_0) : Option (X_check_areNames_75_0_0 ⊕ (X_check_areNames_75_0_0_0 ⊕ X_check_areNames_75_0_0_1)) := st_check_areNames_75_0_0 x.1 x.2.1 x.2.2
theorem rn_check_areNames_75_0_0 (x : X_check_areNames_75_0_0) : rdX (cxU sp_check_areNames [] 40 1048576) keeps 8 ⟨75, 19, keeps 75, 0⟩ 0 (bodyX 75 0) 0 kp_check_areNames_75_0 (sT s_check_areNames_75_0_0 (un_check_areNames_75_0_0 x)) (sH s_check_areNames_75_0_0 (un_check_areNames_75_0_0 x)) (rdO (fun T h => (rdS s_check_areNames_75_0_0 T h).map fl_check_areNames_75_0_0) (getOr (getE 2 x_check_areNames_75_0_0_0 fl_check_areNames_75_0_0_0) (getE 1 x_check_areNames_75_0_0_1 fl_check_areNames_75_0_0_1))) = sx_check_areNames_75_0_0 x := by kernel_rfl
noncomputable def L_check_areNames_75_0_0 (x : X_check_areNames_75_0_0) : Option (X_check_areNames_75_0_0_0 ⊕ X_check_areNames_75_0_0_1) := iterO (fun x => st_check_areNames_75_0_0 x.1 x.2.1 x.2.2) FUEL x
noncomputable def q_check_areNames_75_0 : Nat → Tm → Prog (Nat × Tm) := (varP 0 (fun T h => (rdS s_check_areNames_75_0_0 T h).map fl_check_areNames_75_0_0) L_check_areNames_75_0_0 (fun y => .alt y (altE 2 x_check_areNames_75_0_0_0 un_check_areNames_75_0_0_0) (altE 1 x_check_areNames_75_0_0_1 un_check_areNames_75_0_0_1)) (fun _ _ => .fail))
noncomputable def lc_check_areNames_75_0 : Lpc := ⟨75, 0, 19, (fun base T => .norm base (kp_check_areNames_75_0 0) T (q_check_areNames_75_0 base)), by kernel_rfl, by kernel_rfl, (loopU sp_check_areNames [] 40 1048576 8 (keep := kp_check_areNames_75_0) (q := q_check_areNames_75_0) (by kernel_rfl) (varX_ok (s := s_check_areNames_75_0_0) (un := un_check_areNames_75_0_0) (by rfl) (fun _ => rfl) (getOr_ok (getE_ok (s := x_check_areNames_75_0_0_0) (un := un_check_areNames_75_0_0_0) (by rfl) (fun _ => rfl)) (getE_ok (s := x_check_areNames_75_0_0_1) (un := un_check_areNames_75_0_0_1) (by rfl) (fun _ => rfl))) (step := sx_check_areNames_75_0_0) rn_check_areNames_75_0_0 (fun _ _ e => ⟨_, e⟩) (altOr_ok (altE_ok 2 x_check_areNames_75_0_0_0 un_check_areNames_75_0_0_0) (altE_ok 1 x_check_areNames_75_0_0_1 un_check_areNames_75_0_0_1)) (VarOk.fail _ _)))⟩
noncomputable def g_check_areNames (a0 : (List ByteArray)) : Option Bool :=
  optC (L_check_areNames_75_0_0 (a0, (↑a0.length : Int), 0)) none fun d3 ↦ Sum.elim (fun e4 ↦ some !decide (-1 ≥ 0)) (fun e4 ↦ some !decide (e4 ≥ 0)) d3
theorem raw_check_areNames (a0 : (List ByteArray)) : evGX (cxU sp_check_areNames [lc_check_areNames_75_0] 40 1048576) keeps 8 22 ash_check_areNames (.dat .bool) ((a0, ()) : ((List ByteArray) × Unit)) = g_check_areNames a0 := by kernel_rfl
noncomputable def G_check_areNames (x : ((List ByteArray) × Unit)) : Option Bool := g_check_areNames x.1
noncomputable def con_check_areNames : List AV → Prog AV := conP false ash_check_areNames (.dat .bool) G_check_areNames
theorem snd_check_areNames : SoundA Tryd.prog 22 con_check_areNames := conP_sound (calU sp_check_areNames [lc_check_areNames_75_0] 40 1048576 8 22) false (by rfl) (by rfl) (fun x r e => (evGX_eq _ _ _ _ _ _ _).trans ((raw_check_areNames x.1).trans e)) (.inr fun _ => rfl)
end Go.Proofs.YtmjbedjnojcmfaaDoor.Ex

namespace Go.Proofs.YtmjbedjnojcmfaaDoor.Ex
set_option linter.unusedVariables false
set_option linter.unusedSectionVars false
section
variable [RT] {P : Program} {g : FuncId} {dl : Bool} {sh : List Sh} {rs : Sh}
theorem conP_bind (G : ShDs sh → Option (ShD rs)) (args : List AV) : conP dl sh rs G args = (frzL dl args .ret).bind fun args' => .opt (rds sh args') fun x => .opt (G x) fun r => .ret (mk rs r) := by
  rw [frzL_bind]; rfl
theorem conP_none : SoundA P g (conP dl sh rs fun _ => none) := by
  intro tr args h ft v h' ft' vals hdr S w ok e hr hm hv hi hO
  rw [conP_bind] at e
  obtain ⟨a, h1, f1, e1, e2⟩ := ex_bind_some e
  obtain ⟨x, hx, e3⟩ := ex_opt e2
  obtain ⟨r, hr, _⟩ := ex_opt e3
  cases hr
theorem conP_pick {n : ShDs sh → Nat} {F : Nat → ShDs sh → Option (ShD rs)} (hF : ∀ k, SoundA P g (conP dl sh rs (F k))) : SoundA P g (conP dl sh rs fun x => F (n x) x) := by
  intro tr args h ft v h' ft' vals hdr S w ok e hr hm hv hi hO
  rw [conP_bind] at e
  obtain ⟨a, h1, f1, e1, e2⟩ := ex_bind_some e
  obtain ⟨x, hx, e3⟩ := ex_opt e2
  obtain ⟨r, hr', e4⟩ := ex_opt e3
  refine hF (n x) tr args h ft v h' ft' vals hdr S w ok ?_ hr hm hv hi hO
  rw [conP_bind, ex_bind, e1]
  show ex (Prog.opt (rds sh a) _) tr h1 f1 = _
  unfold ex at e4 ⊢
  simp only [run, hx, Option.bind_some, hr']
  simpa only [run] using e4
def evF1 (cx : Ctx) (keeps : FuncId → List Nat) (n : Nat) (f : FuncId) (args : List AV) : Prog AV := match cx.inl f with
  | none => .fail
  | some fn => evB (cx.at n) (evF cx keeps n) (keeps f) f fn args
theorem evF1_sound {cx : Ctx} (hcx : TabOk P cx.tab) (hcmp : CmpsOk P cx.tab) (hmd : P.follows .mixedOrders = true) (hin : InlOk P cx) (hsp : ∀ g p, cx.spec g = some p → SoundA P g p) (keeps : FuncId → List Nat) (n : Nat) (g : FuncId) : SoundA P g (evF1 cx keeps n g) := by
  cases hi : cx.inl g with
  | none => have : evF1 cx keeps n g = fun _ => .fail := funext fun _ => by simp only [evF1, hi]
            rw [this]; exact soundA_fail g
  | some fn => have : evF1 cx keeps n g = evB (cx.at n) (evF cx keeps n) (keeps g) g fn := funext fun _ => by simp only [evF1, hi]
               rw [this]; exact evB_sound (cx := cx.at n) hcx hcmp (evF_sound hcx hcmp hmd hin hsp keeps n) hmd ⟨hin.fn, hin.lps⟩ hi _
noncomputable def evFX1 {R : Type} (cx : Ctx) (keeps : FuncId → List Nat) (n : Nat) (g : FuncId) (args : List AV) : RunX R AV :=
  @Option.rec Func (fun _ => RunX R AV) (fun _ _ _ _ => none) (fun fn => evBX (cx.at n) (evFX cx keeps n) (keeps g) g fn args) (cx.inl g)
theorem evFX1_same {R : Type} (cx : Ctx) (keeps : FuncId → List Nat) (n : Nat) (g : FuncId) (a : List AV) : Same (R := R) (evFX1 cx keeps n g a) (evF1 cx keeps n g a) := by
  simp only [evFX1, evF1]
  cases cx.inl g with
  | none => exact Same.no
  | some fn => exact evBX_same (cx.at n) (evFX_same cx keeps n) (keeps g) g fn a
noncomputable def evGX1 (cx : Ctx) (keeps : FuncId → List Nat) (n : Nat) (g : FuncId) (sh : List Sh) (rs : Sh) (x : ShDs sh) : Option (ShD rs) :=
  evFX1 cx keeps n g (mks sh x) false ⟨[], 0⟩ ⟨[], []⟩ fun v h f => runX (outP rs v) false h f fun d _ _ => some d
theorem evGX1_eq (cx : Ctx) (keeps : FuncId → List Nat) (n : Nat) (g : FuncId) (sh : List Sh) (rs : Sh) (x : ShDs sh) : evG (evF1 cx keeps n g) sh rs x = evGX1 cx keeps n g sh rs x := by
  unfold evG evGX1
  rw [run_bind, evFX1_same]
  simp only [runX_eq]
end
end Go.Proofs.YtmjbedjnojcmfaaDoor.Ex

namespace Go.Proofs.YtmjbedjnojcmfaaDoor.Ex
open Go.Proofs Go.Proofs.YtmjbedjnojcmfaaDoor
set_option maxRecDepth 100000
set_option maxHeartbeats 2000000
set_option linter.unusedVariables false
set_option linter.unusedSimpArgs false
def ash_check_isIn : List Sh := [.dat (.int .i64), .dat (.int .i64), .dat (.int .i64)]
noncomputable def sp_check_isIn : List Con := []
noncomputable def g_check_isIn (a0 : Int) (a1 : Int) (a2 : Int) : Option Bool :=
  bif decide (a0 ≥ a1) then some (decide (a0 ≤ a2)) else some false
theorem raw_check_isIn (a0 : Int) (a1 : Int) (a2 : Int) : evGX (cxU sp_check_isIn [] 40 1048576) keeps 8 29 ash_check_isIn (.dat .bool) ((a0, a1, a2, ()) : (Int × (Int × (Int × Unit)))) = g_check_isIn a0 a1 a2 := by kernel_rfl
noncomputable def G_check_isIn (x : (Int × (Int × (Int × Unit)))) : Option Bool := g_check_isIn x.1 x.2.1 x.2.2.1
noncomputable def con_check_isIn : List AV → Prog AV := conP true ash_check_isIn (.dat .bool) G_check_isIn
theorem snd_check_isIn : SoundA Tryd.prog 29 con_check_isIn := conP_sound (calU sp_check_isIn [] 40 1048576 8 29) true (by rfl) (by rfl) (fun x r e => (evGX_eq _ _ _ _ _ _ _).trans ((raw_check_isIn x.1 x.2.1 x.2.2.1).trans e)) (.inl rfl)
end Go.Proofs.YtmjbedjnojcmfaaDoor.Ex

namespace Go.Proofs.YtmjbedjnojcmfaaDoor.Ex
open Go.Proofs Go.Proofs.YtmjbedjnojcmfaaDoor
set_option maxRecDepth 100000
set_option maxHeartbeats 2000000
set_option linter.unusedVariables false
set_option linter.unusedSimpArgs false
def ash_check_isExpr : List Sh := [.dat tX]
def kp_check_isExpr_96_0 : Nat → List Nat := fun c => bif c.beq 0 then [0, 1, 7, 8] else [4]
class Rec_check_isExpr where
  K : (Xp × Unit) → Option Bool
  s : SoundA Tryd.prog 61 (conP true ash_check_isExpr (.dat .bool) K)
section
variable [Rec_check_isExpr]
noncomputable def sp_check_isExpr : List Con := [⟨29, con_check_isIn, snd_check_isIn⟩, ⟨25, con_check_isName, snd_check_isName⟩, ⟨61, (conP true ash_check_isExpr (.dat .bool) Rec_check_isExpr.K), Rec_check_isExpr.s⟩]
def s_check_isExpr_96_0_0 : StS := ⟨[(0, .sl (.mu 0)), (1, .clo 87 [] [.ptr 1 0]), (7, .int .i64), (8, .int .i64)], [(1, .box [.clo 61 [] []]), (0, .box [.int .i64, .int .i64, .int .i64, .str, .sl (.mu 0)])], 2⟩
def x_check_isExpr_96_0_0_0 : StS := ⟨[(4, .undef)], [(1, .box [.clo 61 [] []]), (0, .box [.int .i64, .int .i64, .int .i64, .str, .sl (.mu 0)])], 2⟩
def x_check_isExpr_96_0_0_1 : StS := ⟨[(4, .int .i64)], [(1, .box [.clo 61 [] []]), (0, .box [.int .i64, .int .i64, .int .i64, .str, .sl (.mu 0)])], 2⟩
abbrev X_check_isExpr_96_0_0 := ((List (RT.C 0)) × Int × Int × Int × Int × Int × ByteArray × (List (RT.C 0)))
def fl_check_isExpr_96_0_0 (d : StD s_check_isExpr_96_0_0) : X_check_isExpr_96_0_0 := (d.1.1, d.1.2.2.1, d.1.2.2.2.1, d.2.2.1.1, d.2.2.1.2.1, d.2.2.1.2.2.1, d.2.2.1.2.2.2.1, d.2.2.1.2.2.2.2.1)
def un_check_isExpr_96_0_0 (x : X_check_isExpr_96_0_0) : StD s_check_isExpr_96_0_0 := ((x.1, ((), ((), ())), x.2.1, x.2.2.1, ()), ((((), ()), ()), (x.2.2.2.1, x.2.2.2.2.1, x.2.2.2.2.2.1, x.2.2.2.2.2.2.1, x.2.2.2.2.2.2.2, ()), ()))
abbrev X_check_isExpr_96_0_0_0 := (Int × Int × Int × ByteArray × (List (RT.C 0)))
def fl_check_isExpr_96_0_0_0 (d : StD x_check_isExpr_96_0_0_0) : X_check_isExpr_96_0_0_0 := (d.2.2.1.1, d.2.2.1.2.1, d.2.2.1.2.2.1, d.2.2.1.2.2.2.1, d.2.2.1.2.2.2.2.1)
def un_check_isExpr_96_0_0_0 (x : X_check_isExpr_96_0_0_0) : StD x_check_isExpr_96_0_0_0 := (((), ()), ((((), ()), ()), (x.1, x.2.1, x.2.2.1, x.2.2.2.1, x.2.2.2.2, ()), ()))
abbrev X_check_isExpr_96_0_0_1 := (Int × Int × Int × Int × ByteArray × (List (RT.C 0)))
def fl_check_isExpr_96_0_0_1 (d : StD x_check_isExpr_96_0_0_1) : X_check_isExpr_96_0_0_1 := (d.1.1, d.2.2.1.1, d.2.2.1.2.1, d.2.2.1.2.2.1, d.2.2.1.2.2.2.1, d.2.2.1.2.2.2.2.1)
def un_check_isExpr_96_0_0_1 (x : X_check_isExpr_96_0_0_1) : StD x_check_isExpr_96_0_0_1 := ((x.1, ()), ((((), ()), ()), (x.2.1, x.2.2.1, x.2.2.2.1, x.2.2.2.2.1, x.2.2.2.2.2, ()), ()))
noncomputable def st_check_isExpr_96_0_0 (s0 : (List (RT.C 0))) (s7 : Int) (s8 : Int) (b0 : Int) (b0_1 : Int) (b0_2 : Int) (b0_3 : ByteArray) (b0_4 : (List (RT.C 0))) : Option (((List (RT.C 0)) × Int × Int × Int × Int × Int × ByteArray × (List (RT.C 0))) ⊕ ((Int × Int × Int × ByteArray × (List (RT.C 0))) ⊕ (Int × Int × Int × Int × ByteArray × (List (RT.C 0))))) :=
  bif decide (s8 < s7) then
 bif decide (0 ≤ s8) then
 optC s0[s8.toNat]? none fun d11 ↦
 optC (Rec_check_isExpr.K (uT0 d11, ())) none fun d12 ↦
 bif !d12 then some (Sum.inr (Sum.inr (s8, b0, b0_1, b0_2, b0_3, b0_4))) else some (Sum.inl (s0, s7, Go.IntKind.i64.wrap (s8 + 1), b0, b0_1, b0_2, b0_3, b0_4))
 else none
 else some (Sum.inr (Sum.inl (b0, b0_1, b0_2, b0_3, b0_4)))
noncomputable def sx_check_isExpr_96_0_0 (x : X_check_isExpr_96_0_0) : Option (X_check_isExpr_96_0_0 ⊕ (X_check_isExpr_96_0_0_0 ⊕ X_check_isExpr_96_0_0_1)) := st_check_isExpr_96_0_0 x.1 x.2.1 x.2.2.1 x.2.2.2.1 x.2.2.2.2.1 x.2.2.2.2.2.1 x.2.2.2.2.2.2.1 x.2.2.2.2.2.2.2
theorem rn_check_isExpr_96_0_0 (x : X_check_isExpr_96_0_0) : rdX (cxU sp_check_isExpr [] 40 (1048576 ^ 9)) keeps 8 ⟨96, 19, keeps 96, 2⟩ 0 (bodyX 96 0) 2 kp_check_isExpr_96_0 (sT s_check_isExpr_96_0_0 (un_check_isExpr_96_0_0 x)) (sH s_check_isExpr_96_0_0 (un_check_isExpr_96_0_0 x)) (rdO (fun T h => (rdS s_check_isExpr_96_0_0 T h).map fl_check_isExpr_96_0_0) (getOr (getE 2 x_check_isExpr_96_0_0_0 fl_check_isExpr_96_0_0_0) (getE 1 x_check_isExpr_96_0_0_1 fl_check_isExpr_96_0_0_1))) = sx_check_isExpr_96_0_0 x := by kernel_rfl
noncomputable def L_check_isExpr_96_0_0 (x : X_check_isExpr_96_0_0) : Option (X_check_isExpr_96_0_0_0 ⊕ X_check_isExpr_96_0_0_1) := iterO (fun x => st_check_isExpr_96_0_0 x.1 x.2.1 x.2.2.1 x.2.2.2.1 x.2.2.2.2.1 x.2.2.2.2.2.1 x.2.2.2.2.2.2.1 x.2.2.2.2.2.2.2) FUEL x
noncomputable def q_check_isExpr_96_0 : Nat → Tm → Prog (Nat × Tm) := (varP 2 (fun T h => (rdS s_check_isExpr_96_0_0 T h).map fl_check_isExpr_96_0_0) L_check_isExpr_96_0_0 (fun y => .alt y (altE 2 x_check_isExpr_96_0_0_0 un_check_isExpr_96_0_0_0) (altE 1 x_check_isExpr_96_0_0_1 un_check_isExpr_96_0_0_1)) (fun _ _ => .fail))
noncomputable def lc_check_isExpr_96_0 : Lpc := ⟨96, 0, 19, (fun base T => .norm base (kp_check_isExpr_96_0 0) T (q_check_isExpr_96_0 base)), by kernel_rfl, by kernel_rfl, (loopU sp_check_isExpr [] 40 (1048576 ^ 9) 8 (keep := kp_check_isExpr_96_0) (q := q_check_isExpr_96_0) (by kernel_rfl) (varX_ok (s := s_check_isExpr_96_0_0) (un := un_check_isExpr_96_0_0) (by rfl) (fun _ => rfl) (getOr_ok (getE_ok (s := x_check_isExpr_96_0_0_0) (un := un_check_isExpr_96_0_0_0) (by rfl) (fun _ => rfl)) (getE_ok (s := x_check_isExpr_96_0_0_1) (un := un_check_isExpr_96_0_0_1) (by rfl) (fun _ => rfl))) (step := sx_check_isExpr_96_0_0) rn_check_isExpr_96_0_0 (fun _ _ e => ⟨_, e⟩) (altOr_ok (altE_ok 2 x_check_isExpr_96_0_0_0 un_check_isExpr_96_0_0_0) (altE_ok 1 x_check_isExpr_96_0_0_1 un_check_isExpr_96_0_0_1)) (VarOk.fail _ _)))⟩
noncomputable def g_check_isExpr (a0 : Xp) : Option Bool :=
  bif a0.1 == 1 then
 optC (G_check_isIn (a0.2.1, 0, 2147483647, ())) none fun d4 ↦
 bif d4 then
 bif (↑(List.length a0.2.2.2.2) : Int) == 0 then
 optC (L_check_isExpr_96_0_0 (a0.2.2.2.2, (↑(List.length a0.2.2.2.2) : Int), 0, a0)) none fun d5 ↦
 Sum.elim (fun e6 ↦ some !decide (-1 ≥ 0)) (fun e6 ↦ some !decide (e6.1 ≥ 0)) d5
 else some false
 else some false
 else
 bif a0.1 == 4 then
 bif (↑(List.length a0.2.2.2.2) : Int) == 0 then
 optC (L_check_isExpr_96_0_0 (a0.2.2.2.2, (↑(List.length a0.2.2.2.2) : Int), 0, a0)) none fun d4 ↦
 Sum.elim (fun e5 ↦ some !decide (-1 ≥ 0)) (fun e5 ↦ some !decide (e5.1 ≥ 0)) d4
 else some false
 else
 bif a0.1 == 2 then
 optC (G_check_isName (a0.2.2.2.1, ())) none fun d4 ↦
 bif d4 then
 bif (↑(List.length a0.2.2.2.2) : Int) == 0 then
 optC (L_check_isExpr_96_0_0 (a0.2.2.2.2, (↑(List.length a0.2.2.2.2) : Int), 0, a0)) none fun d5 ↦
 Sum.elim (fun e6 ↦ some !decide (-1 ≥ 0)) (fun e6 ↦ some !decide (e6.1 ≥ 0)) d5
 else some false
 else some false
 else
 bif a0.1 == 3 then
 optC (G_check_isName (a0.2.2.2.1, ())) none fun d4 ↦
 bif d4 then
 bif (↑(List.length a0.2.2.2.2) : Int) == 1 then
 optC (L_check_isExpr_96_0_0 (a0.2.2.2.2, (↑(List.length a0.2.2.2.2) : Int), 0, a0)) none fun d5 ↦
 Sum.elim (fun e6 ↦ some !decide (-1 ≥ 0)) (fun e6 ↦ some !decide (e6.1 ≥ 0)) d5
 else some false
 else some false
 else
 bif a0.1 == 6 then
 bif (↑(List.length a0.2.2.2.2) : Int) == 1 then
 optC (L_check_isExpr_96_0_0 (a0.2.2.2.2, (↑(List.length a0.2.2.2.2) : Int), 0, a0)) none fun d4 ↦
 Sum.elim (fun e5 ↦ some !decide (-1 ≥ 0)) (fun e5 ↦ some !decide (e5.1 ≥ 0)) d4
 else some false
 else
 bif a0.1 == 5 then
 optC (G_check_isIn (a0.2.2.1, 1, 5, ())) none fun d4 ↦
 bif d4 then
 bif (↑(List.length a0.2.2.2.2) : Int) == 2 then
 optC (L_check_isExpr_96_0_0 (a0.2.2.2.2, (↑(List.length a0.2.2.2.2) : Int), 0, a0)) none fun d5 ↦
 Sum.elim (fun e6 ↦ some !decide (-1 ≥ 0)) (fun e6 ↦ some !decide (e6.1 ≥ 0)) d5
 else some false
 else some false
 else some false
theorem raw_check_isExpr (a0 : Xp) : evGX1 (cxU sp_check_isExpr [lc_check_isExpr_96_0] 40 (1048576 ^ 9)) keeps 8 61 ash_check_isExpr (.dat .bool) ((a0, ()) : (Xp × Unit)) = g_check_isExpr a0 := by kernel_rfl
noncomputable def GI_check_isExpr (x : (Xp × Unit)) : Option Bool := g_check_isExpr x.1
noncomputable def conI_check_isExpr : List AV → Prog AV := conP true ash_check_isExpr (.dat .bool) GI_check_isExpr
theorem sndI_check_isExpr : SoundA Tryd.prog 61 conI_check_isExpr := conP_sound (evF1_sound (tabOk_of tab_ok) (cmpsOk_of tab_ok cmps_ok) mixed (inU sp_check_isExpr [lc_check_isExpr_96_0] 40 (1048576 ^ 9)) (hspL sp_check_isExpr) keeps 8 61) true (by rfl) (by rfl) (fun x r e => (evGX1_eq _ _ _ _ _ _ _).trans ((raw_check_isExpr x.1).trans e)) (.inl rfl)
end
noncomputable def it_check_isExpr : Nat → {K : (Xp × Unit) → Option Bool // SoundA Tryd.prog 61 (conP true ash_check_isExpr (.dat .bool) K)}
  | 0 => ⟨fun _ => none, conP_none⟩
  | k + 1 => letI : Rec_check_isExpr := ⟨(it_check_isExpr k).1, (it_check_isExpr k).2⟩; ⟨GI_check_isExpr, sndI_check_isExpr⟩
noncomputable def G_check_isExpr (x : (Xp × Unit)) : Option Bool := (it_check_isExpr (SizeOf.sizeOf x + 1)).1 x
noncomputable def con_check_isExpr : List AV → Prog AV := conP true ash_check_isExpr (.dat .bool) G_check_isExpr
theorem snd_check_isExpr : SoundA Tryd.prog 61 con_check_isExpr := conP_pick (sh := ash_check_isExpr) (rs := .dat .bool) (n := fun x : (Xp × Unit) => SizeOf.sizeOf x + 1) (F := fun k => (it_check_isExpr k).1) (fun k => (it_check_isExpr k).2)
end Go.Proofs.YtmjbedjnojcmfaaDoor.Ex

namespace Go.Proofs.YtmjbedjnojcmfaaDoor.Ex
open Go.Proofs Go.Proofs.YtmjbedjnojcmfaaDoor
set_option maxRecDepth 100000
set_option maxHeartbeats 2000000
set_option linter.unusedVariables false
set_option linter.unusedSimpArgs false
def ash_check_isCond : List Sh := [.dat tCd]
def kp_check_isCond_96_0 : Nat → List Nat := fun c => bif c.beq 0 then [0, 1, 7, 8] else [4]
def kp_check_isCond_97_0 : Nat → List Nat := fun c => bif c.beq 0 then [0, 1, 7, 8] else [4]
class Rec_check_isCond where
  K : (Cd × Unit) → Option Bool
  s : SoundA Tryd.prog 62 (conP true ash_check_isCond (.dat .bool) K)
section
variable [Rec_check_isCond]
noncomputable def sp_check_isCond : List Con := [⟨29, con_check_isIn, snd_check_isIn⟩, ⟨61, con_check_isExpr, snd_check_isExpr⟩, ⟨62, (conP true ash_check_isCond (.dat .bool) Rec_check_isCond.K), Rec_check_isCond.s⟩]
def s_check_isCond_96_0_0 : StS := ⟨[(0, .sl (.mu 0)), (1, .clo 87 [] [.ptr 1 0]), (7, .int .i64), (8, .int .i64)], [(1, .box [.clo 61 [] []]), (0, .box [.int .i64, .int .i64, .sl (.mu 0), .sl (.mu 1)])], 2⟩
def x_check_isCond_96_0_0_0 : StS := ⟨[(4, .undef)], [(1, .box [.clo 61 [] []]), (0, .box [.int .i64, .int .i64, .sl (.mu 0), .sl (.mu 1)])], 2⟩
def x_check_isCond_96_0_0_1 : StS := ⟨[(4, .int .i64)], [(1, .box [.clo 61 [] []]), (0, .box [.int .i64, .int .i64, .sl (.mu 0), .sl (.mu 1)])], 2⟩
abbrev X_check_isCond_96_0_0 := ((List (RT.C 0)) × Int × Int × Int × Int × (List (RT.C 0)) × (List (RT.C 1)))
def fl_check_isCond_96_0_0 (d : StD s_check_isCond_96_0_0) : X_check_isCond_96_0_0 := (d.1.1, d.1.2.2.1, d.1.2.2.2.1, d.2.2.1.1, d.2.2.1.2.1, d.2.2.1.2.2.1, d.2.2.1.2.2.2.1)
def un_check_isCond_96_0_0 (x : X_check_isCond_96_0_0) : StD s_check_isCond_96_0_0 := ((x.1, ((), ((), ())), x.2.1, x.2.2.1, ()), ((((), ()), ()), (x.2.2.2.1, x.2.2.2.2.1, x.2.2.2.2.2.1, x.2.2.2.2.2.2, ()), ()))
abbrev X_check_isCond_96_0_0_0 := (Int × Int × (List (RT.C 0)) × (List (RT.C 1)))
def fl_check_isCond_96_0_0_0 (d : StD x_check_isCond_96_0_0_0) : X_check_isCond_96_0_0_0 := (d.2.2.1.1, d.2.2.1.2.1, d.2.2.1.2.2.1, d.2.2.1.2.2.2.1)
def un_check_isCond_96_0_0_0 (x : X_check_isCond_96_0_0_0) : StD x_check_isCond_96_0_0_0 := (((), ()), ((((), ()), ()), (x.1, x.2.1, x.2.2.1, x.2.2.2, ()), ()))
abbrev X_check_isCond_96_0_0_1 := (Int × Int × Int × (List (RT.C 0)) × (List (RT.C 1)))
def fl_check_isCond_96_0_0_1 (d : StD x_check_isCond_96_0_0_1) : X_check_isCond_96_0_0_1 := (d.1.1, d.2.2.1.1, d.2.2.1.2.1, d.2.2.1.2.2.1, d.2.2.1.2.2.2.1)
def un_check_isCond_96_0_0_1 (x : X_check_isCond_96_0_0_1) : StD x_check_isCond_96_0_0_1 := ((x.1, ()), ((((), ()), ()), (x.2.1, x.2.2.1, x.2.2.2.1, x.2.2.2.2, ()), ()))
noncomputable def st_check_isCond_96_0_0 (s0 : (List (RT.C 0))) (s7 : Int) (s8 : Int) (b0 : Int) (b0_1 : Int) (b0_2 : (List (RT.C 0))) (b0_3 : (List (RT.C 1))) : Option (((List (RT.C 0)) × Int × Int × Int × Int × (List (RT.C 0)) × (List (RT.C 1))) ⊕ ((Int × Int × (List (RT.C 0)) × (List (RT.C 1))) ⊕ (Int × Int × Int × (List (RT.C 0)) × (List (RT.C 1))))) :=
  bif decide (s8 < s7) then
 bif decide (0 ≤ s8) then
 optC s0[s8.toNat]? none fun d11 ↦
 optC (G_check_isExpr (uT0 d11, ())) none fun d12 ↦
 bif !d12 then some (Sum.inr (Sum.inr (s8, b0, b0_1, b0_2, b0_3))) else some (Sum.inl (s0, s7, Go.IntKind.i64.wrap (s8 + 1), b0, b0_1, b0_2, b0_3))
 else none
 else some (Sum.inr (Sum.inl (b0, b0_1, b0_2, b0_3)))
noncomputable def sx_check_isCond_96_0_0 (x : X_check_isCond_96_0_0) : Option (X_check_isCond_96_0_0 ⊕ (X_check_isCond_96_0_0_0 ⊕ X_check_isCond_96_0_0_1)) := st_check_isCond_96_0_0 x.1 x.2.1 x.2.2.1 x.2.2.2.1 x.2.2.2.2.1 x.2.2.2.2.2.1 x.2.2.2.2.2.2
theorem rn_check_isCond_96_0_0 (x : X_check_isCond_96_0_0) : rdX (cxU sp_check_isCond [] 40 (1048576 ^ 9)) keeps 8 ⟨96, 19, keeps 96, 2⟩ 0 (bodyX 96 0) 2 kp_check_isCond_96_0 (sT s_check_isCond_96_0_0 (un_check_isCond_96_0_0 x)) (sH s_check_isCond_96_0_0 (un_check_isCond_96_0_0 x)) (rdO (fun T h => (rdS s_check_isCond_96_0_0 T h).map fl_check_isCond_96_0_0) (getOr (getE 2 x_check_isCond_96_0_0_0 fl_check_isCond_96_0_0_0) (getE 1 x_check_isCond_96_0_0_1 fl_check_isCond_96_0_0_1))) = sx_check_isCond_96_0_0 x := by kernel_rfl
noncomputable def L_check_isCond_96_0_0 (x : X_check_isCond_96_0_0) : Option (X_check_isCond_96_0_0_0 ⊕ X_check_isCond_96_0_0_1) := iterO (fun x => st_check_isCond_96_0_0 x.1 x.2.1 x.2.2.1 x.2.2.2.1 x.2.2.2.2.1 x.2.2.2.2.2.1 x.2.2.2.2.2.2) FUEL x
noncomputable def q_check_isCond_96_0 : Nat → Tm → Prog (Nat × Tm) := (varP 2 (fun T h => (rdS s_check_isCond_96_0_0 T h).map fl_check_isCond_96_0_0) L_check_isCond_96_0_0 (fun y => .alt y (altE 2 x_check_isCond_96_0_0_0 un_check_isCond_96_0_0_0) (altE 1 x_check_isCond_96_0_0_1 un_check_isCond_96_0_0_1)) (fun _ _ => .fail))
noncomputable def lc_check_isCond_96_0 : Lpc := ⟨96, 0, 19, (fun base T => .norm base (kp_check_isCond_96_0 0) T (q_check_isCond_96_0 base)), by kernel_rfl, by kernel_rfl, (loopU sp_check_isCond [] 40 (1048576 ^ 9) 8 (keep := kp_check_isCond_96_0) (q := q_check_isCond_96_0) (by kernel_rfl) (varX_ok (s := s_check_isCond_96_0_0) (un := un_check_isCond_96_0_0) (by rfl) (fun _ => rfl) (getOr_ok (getE_ok (s := x_check_isCond_96_0_0_0) (un := un_check_isCond_96_0_0_0) (by rfl) (fun _ => rfl)) (getE_ok (s := x_check_isCond_96_0_0_1) (un := un_check_isCond_96_0_0_1) (by rfl) (fun _ => rfl))) (step := sx_check_isCond_96_0_0) rn_check_isCond_96_0_0 (fun _ _ e => ⟨_, e⟩) (altOr_ok (altE_ok 2 x_check_isCond_96_0_0_0 un_check_isCond_96_0_0_0) (altE_ok 1 x_check_isCond_96_0_0_1 un_check_isCond_96_0_0_1)) (VarOk.fail _ _)))⟩
noncomputable abbrev cx_check_isCond_97_0 := cxU sp_check_isCond [lc_check_isCond_96_0] 40 (1048576 ^ 9)
def s_check_isCond_97_0_0 : StS := ⟨[(0, .sl (.mu 1)), (1, .clo 89 [] [.ptr 2 0]), (7, .int .i64), (8, .int .i64)], [(2, .box [.clo 62 [] []]), (1, .box [.clo 61 [] []]), (0, .box [.int .i64, .int .i64, .sl (.mu 0), .sl (.mu 1)])], 3⟩
def x_check_isCond_97_0_0_0 : StS := ⟨[(4, .undef)], [(2, .box [.clo 62 [] []]), (1, .box [.clo 61 [] []]), (0, .box [.int .i64, .int .i64, .sl (.mu 0), .sl (.mu 1)])], 3⟩
def x_check_isCond_97_0_0_1 : StS := ⟨[(4, .int .i64)], [(2, .box [.clo 62 [] []]), (1, .box [.clo 61 [] []]), (0, .box [.int .i64, .int .i64, .sl (.mu 0), .sl (.mu 1)])], 3⟩
abbrev X_check_isCond_97_0_0 := ((List (RT.C 1)) × Int × Int × Int × Int × (List (RT.C 0)) × (List (RT.C 1)))
def fl_check_isCond_97_0_0 (d : StD s_check_isCond_97_0_0) : X_check_isCond_97_0_0 := (d.1.1, d.1.2.2.1, d.1.2.2.2.1, d.2.2.2.1.1, d.2.2.2.1.2.1, d.2.2.2.1.2.2.1, d.2.2.2.1.2.2.2.1)
def un_check_isCond_97_0_0 (x : X_check_isCond_97_0_0) : StD s_check_isCond_97_0_0 := ((x.1, ((), ((), ())), x.2.1, x.2.2.1, ()), ((((), ()), ()), (((), ()), ()), (x.2.2.2.1, x.2.2.2.2.1, x.2.2.2.2.2.1, x.2.2.2.2.2.2, ()), ()))
abbrev X_check_isCond_97_0_0_0 := (Int × Int × (List (RT.C 0)) × (List (RT.C 1)))
def fl_check_isCond_97_0_0_0 (d : StD x_check_isCond_97_0_0_0) : X_check_isCond_97_0_0_0 := (d.2.2.2.1.1, d.2.2.2.1.2.1, d.2.2.2.1.2.2.1, d.2.2.2.1.2.2.2.1)
def un_check_isCond_97_0_0_0 (x : X_check_isCond_97_0_0_0) : StD x_check_isCond_97_0_0_0 := (((), ()), ((((), ()), ()), (((), ()), ()), (x.1, x.2.1, x.2.2.1, x.2.2.2, ()), ()))
abbrev X_check_isCond_97_0_0_1 := (Int × Int × Int × (List (RT.C 0)) × (List (RT.C 1)))
def fl_check_isCond_97_0_0_1 (d : StD x_check_isCond_97_0_0_1) : X_check_isCond_97_0_0_1 := (d.1.1, d.2.2.2.1.1, d.2.2.2.1.2.1, d.2.2.2.1.2.2.1, d.2.2.2.1.2.2.2.1)
def un_check_isCond_97_0_0_1 (x : X_check_isCond_97_0_0_1) : StD x_check_isCond_97_0_0_1 := ((x.1, ()), ((((), ()), ()), (((), ()), ()), (x.2.1, x.2.2.1, x.2.2.2.1, x.2.2.2.2, ()), ()))
noncomputable def st_check_isCond_97_0_0 (s0 : (List (RT.C 1))) (s7 : Int) (s8 : Int) (b0 : Int) (b0_1 : Int) (b0_2 : (List (RT.C 0))) (b0_3 : (List (RT.C 1))) : Option (((List (RT.C 1)) × Int × Int × Int × Int × (List (RT.C 0)) × (List (RT.C 1))) ⊕ ((Int × Int × (List (RT.C 0)) × (List (RT.C 1))) ⊕ (Int × Int × Int × (List (RT.C 0)) × (List (RT.C 1))))) :=
  bif decide (s8 < s7) then
 bif decide (0 ≤ s8) then
 optC s0[s8.toNat]? none fun d11 ↦
 optC (Rec_check_isCond.K (uT1 d11, ())) none fun d12 ↦
 bif !d12 then some (Sum.inr (Sum.inr (s8, b0, b0_1, b0_2, b0_3))) else some (Sum.inl (s0, s7, Go.IntKind.i64.wrap (s8 + 1), b0, b0_1, b0_2, b0_3))
 else none
 else some (Sum.inr (Sum.inl (b0, b0_1, b0_2, b0_3)))
noncomputable def sx_check_isCond_97_0_0 (x : X_check_isCond_97_0_0) : Option (X_check_isCond_97_0_0 ⊕ (X_check_isCond_97_0_0_0 ⊕ X_check_isCond_97_0_0_1)) := st_check_isCond_97_0_0 x.1 x.2.1 x.2.2.1 x.2.2.2.1 x.2.2.2.2.1 x.2.2.2.2.2.1 x.2.2.2.2.2.2
theorem rn_check_isCond_97_0_0 (x : X_check_isCond_97_0_0) : rdX cx_check_isCond_97_0 keeps 8 ⟨97, 19, keeps 97, 3⟩ 0 (bodyX 97 0) 3 kp_check_isCond_97_0 (sT s_check_isCond_97_0_0 (un_check_isCond_97_0_0 x)) (sH s_check_isCond_97_0_0 (un_check_isCond_97_0_0 x)) (rdO (fun T h => (rdS s_check_isCond_97_0_0 T h).map fl_check_isCond_97_0_0) (getOr (getE 2 x_check_isCond_97_0_0_0 fl_check_isCond_97_0_0_0) (getE 1 x_check_isCond_97_0_0_1 fl_check_isCond_97_0_0_1))) = sx_check_isCond_97_0_0 x := by kernel_rfl
noncomputable def L_check_isCond_97_0_0 (x : X_check_isCond_97_0_0) : Option (X_check_isCond_97_0_0_0 ⊕ X_check_isCond_97_0_0_1) := iterO (fun x => st_check_isCond_97_0_0 x.1 x.2.1 x.2.2.1 x.2.2.2.1 x.2.2.2.2.1 x.2.2.2.2.2.1 x.2.2.2.2.2.2) FUEL x
noncomputable def q_check_isCond_97_0 : Nat → Tm → Prog (Nat × Tm) := (varP 3 (fun T h => (rdS s_check_isCond_97_0_0 T h).map fl_check_isCond_97_0_0) L_check_isCond_97_0_0 (fun y => .alt y (altE 2 x_check_isCond_97_0_0_0 un_check_isCond_97_0_0_0) (altE 1 x_check_isCond_97_0_0_1 un_check_isCond_97_0_0_1)) (fun _ _ => .fail))
noncomputable def lc_check_isCond_97_0 : Lpc := ⟨97, 0, 19, (fun base T => .norm base (kp_check_isCond_97_0 0) T (q_check_isCond_97_0 base)), by kernel_rfl, by kernel_rfl, (loopU sp_check_isCond [lc_check_isCond_96_0] 40 (1048576 ^ 9) 8 (keep := kp_check_isCond_97_0) (q := q_check_isCond_97_0) (by kernel_rfl) (varX_ok (s := s_check_isCond_97_0_0) (un := un_check_isCond_97_0_0) (by rfl) (fun _ => rfl) (getOr_ok (getE_ok (s := x_check_isCond_97_0_0_0) (un := un_check_isCond_97_0_0_0) (by rfl) (fun _ => rfl)) (getE_ok (s := x_check_isCond_97_0_0_1) (un := un_check_isCond_97_0_0_1) (by rfl) (fun _ => rfl))) (step := sx_check_isCond_97_0_0) rn_check_isCond_97_0_0 (fun _ _ e => ⟨_, e⟩) (altOr_ok (altE_ok 2 x_check_isCond_97_0_0_0 un_check_isCond_97_0_0_0) (altE_ok 1 x_check_isCond_97_0_0_1 un_check_isCond_97_0_0_1)) (VarOk.fail _ _)))⟩
noncomputable def g_check_isCond (a0 : Cd) : Option Bool :=
  bif a0.1 == 1 then
 optC (G_check_isIn (a0.2.1, 1, 6, ())) none fun d5 ↦
 bif d5 then
 bif (↑(List.length a0.2.2.2) : Int) == 0 then
 bif (↑(List.length a0.2.2.1) : Int) == 2 then
 optC (L_check_isCond_96_0_0 (a0.2.2.1, (↑(List.length a0.2.2.1) : Int), 0, a0)) none fun d6 ↦
 Sum.elim
 (fun e7 ↦
 optC (L_check_isCond_97_0_0 (e7.2.2.2, (↑e7.2.2.2.length : Int), 0, e7)) none fun d8 ↦
 Sum.elim (fun e9 ↦ some !decide (-1 ≥ 0)) (fun e9 ↦ some !decide (e9.1 ≥ 0)) d8)
 (fun e7 ↦
 bif !decide (e7.1 ≥ 0) then
 optC (L_check_isCond_97_0_0 (e7.2.2.2.2, (↑e7.2.2.2.2.length : Int), 0, e7.2)) none fun d8 ↦
 Sum.elim (fun e9 ↦ some !decide (-1 ≥ 0)) (fun e9 ↦ some !decide (e9.1 ≥ 0)) d8
 else some false)
 d6
 else some false
 else some false
 else some false
 else
 bif a0.1 == 2 then
 bif (↑(List.length a0.2.2.2) : Int) == 1 then
 bif (↑(List.length a0.2.2.1) : Int) == 0 then
 optC (L_check_isCond_96_0_0 (a0.2.2.1, (↑(List.length a0.2.2.1) : Int), 0, a0)) none fun d5 ↦
 Sum.elim
 (fun e6 ↦
 optC (L_check_isCond_97_0_0 (e6.2.2.2, (↑e6.2.2.2.length : Int), 0, e6)) none fun d7 ↦
 Sum.elim (fun e8 ↦ some !decide (-1 ≥ 0)) (fun e8 ↦ some !decide (e8.1 ≥ 0)) d7)
 (fun e6 ↦
 bif !decide (e6.1 ≥ 0) then
 optC (L_check_isCond_97_0_0 (e6.2.2.2.2, (↑e6.2.2.2.2.length : Int), 0, e6.2)) none fun d7 ↦
 Sum.elim (fun e8 ↦ some !decide (-1 ≥ 0)) (fun e8 ↦ some !decide (e8.1 ≥ 0)) d7
 else some false)
 d5
 else some false
 else some false
 else
 bif a0.1 == 3 then
 bif (↑(List.length a0.2.2.2) : Int) == 2 then
 bif (↑(List.length a0.2.2.1) : Int) == 0 then
 optC (L_check_isCond_96_0_0 (a0.2.2.1, (↑(List.length a0.2.2.1) : Int), 0, a0)) none fun d5 ↦
 Sum.elim
 (fun e6 ↦
 optC (L_check_isCond_97_0_0 (e6.2.2.2, (↑e6.2.2.2.length : Int), 0, e6)) none fun d7 ↦
 Sum.elim (fun e8 ↦ some !decide (-1 ≥ 0)) (fun e8 ↦ some !decide (e8.1 ≥ 0)) d7)
 (fun e6 ↦
 bif !decide (e6.1 ≥ 0) then
 optC (L_check_isCond_97_0_0 (e6.2.2.2.2, (↑e6.2.2.2.2.length : Int), 0, e6.2)) none fun d7 ↦
 Sum.elim (fun e8 ↦ some !decide (-1 ≥ 0)) (fun e8 ↦ some !decide (e8.1 ≥ 0)) d7
 else some false)
 d5
 else some false
 else some false
 else
 bif a0.1 == 4 then
 bif (↑(List.length a0.2.2.2) : Int) == 2 then
 bif (↑(List.length a0.2.2.1) : Int) == 0 then
 optC (L_check_isCond_96_0_0 (a0.2.2.1, (↑(List.length a0.2.2.1) : Int), 0, a0)) none fun d5 ↦
 Sum.elim
 (fun e6 ↦
 optC (L_check_isCond_97_0_0 (e6.2.2.2, (↑e6.2.2.2.length : Int), 0, e6)) none fun d7 ↦
 Sum.elim (fun e8 ↦ some !decide (-1 ≥ 0)) (fun e8 ↦ some !decide (e8.1 ≥ 0)) d7)
 (fun e6 ↦
 bif !decide (e6.1 ≥ 0) then
 optC (L_check_isCond_97_0_0 (e6.2.2.2.2, (↑e6.2.2.2.2.length : Int), 0, e6.2)) none fun d7 ↦
 Sum.elim (fun e8 ↦ some !decide (-1 ≥ 0)) (fun e8 ↦ some !decide (e8.1 ≥ 0)) d7
 else some false)
 d5
 else some false
 else some false
 else some false
theorem raw_check_isCond (a0 : Cd) : evGX1 (cxU sp_check_isCond [lc_check_isCond_96_0, lc_check_isCond_97_0] 40 (1048576 ^ 9)) keeps 8 62 ash_check_isCond (.dat .bool) ((a0, ()) : (Cd × Unit)) = g_check_isCond a0 := by kernel_rfl
noncomputable def GI_check_isCond (x : (Cd × Unit)) : Option Bool := g_check_isCond x.1
noncomputable def conI_check_isCond : List AV → Prog AV := conP true ash_check_isCond (.dat .bool) GI_check_isCond
theorem sndI_check_isCond : SoundA Tryd.prog 62 conI_check_isCond := conP_sound (evF1_sound (tabOk_of tab_ok) (cmpsOk_of tab_ok cmps_ok) mixed (inU sp_check_isCond [lc_check_isCond_96_0, lc_check_isCond_97_0] 40 (1048576 ^ 9)) (hspL sp_check_isCond) keeps 8 62) true (by rfl) (by rfl) (fun x r e => (evGX1_eq _ _ _ _ _ _ _).trans ((raw_check_isCond x.1).trans e)) (.inl rfl)
end
noncomputable def it_check_isCond : Nat → {K : (Cd × Unit) → Option Bool // SoundA Tryd.prog 62 (conP true ash_check_isCond (.dat .bool) K)}
  | 0 => ⟨fun _ => none, conP_none⟩
  | k + 1 => letI : Rec_check_isCond := ⟨(it_check_isCond k).1, (it_check_isCond k).2⟩; ⟨GI_check_isCond, sndI_check_isCond⟩
noncomputable def G_check_isCond (x : (Cd × Unit)) : Option Bool := (it_check_isCond (SizeOf.sizeOf x + 1)).1 x
noncomputable def con_check_isCond : List AV → Prog AV := conP true ash_check_isCond (.dat .bool) G_check_isCond
theorem snd_check_isCond : SoundA Tryd.prog 62 con_check_isCond := conP_pick (sh := ash_check_isCond) (rs := .dat .bool) (n := fun x : (Cd × Unit) => SizeOf.sizeOf x + 1) (F := fun k => (it_check_isCond k).1) (fun k => (it_check_isCond k).2)
end Go.Proofs.YtmjbedjnojcmfaaDoor.Ex

namespace Go.Proofs.YtmjbedjnojcmfaaDoor.Ex
open Go.Proofs Go.Proofs.YtmjbedjnojcmfaaDoor
set_option maxRecDepth 100000
set_option maxHeartbeats 2000000
set_option linter.unusedVariables false
set_option linter.unusedSimpArgs false
def ash_check_isStmt : List Sh := [.dat tSm]
def kp_check_isStmt_64_0 : Nat → List Nat := fun c => bif c.beq 0 then [0, 1, 7, 8] else [4]
class Rec_check_isStmt where
  K : (Stm × Unit) → Option Bool
  s : SoundA Tryd.prog 31 (conP true ash_check_isStmt (.dat .bool) K)
section
variable [Rec_check_isStmt]
noncomputable def sp_check_isStmt : List Con := [⟨25, con_check_isName, snd_check_isName⟩, ⟨61, con_check_isExpr, snd_check_isExpr⟩, ⟨62, con_check_isCond, snd_check_isCond⟩, ⟨31, (conP true ash_check_isStmt (.dat .bool) Rec_check_isStmt.K), Rec_check_isStmt.s⟩]
def s_check_isStmt_64_0_1 : StS := ⟨[(0, .sl (.mu 2)), (1, .clo 37 [] [.ptr 2 0]), (7, .int .i64), (8, .int .i64)], [(2, .box [.clo 31 [] []]), (1, .box [.clo 31 [] []]), (0, .box [.int .i64, .str, .int .i64, .int .i64, .int .i64, .str, .sl (.mu 0), .int .i64, .int .i64, .int .i64, .str, .sl (.mu 0), .int .i64, .int .i64, .sl (.mu 0), .sl (.mu 1), .sl (.mu 2), .sl (.mu 2)])], 3⟩
def x_check_isStmt_64_0_1_0 : StS := ⟨[(4, .undef)], [(2, .box [.clo 31 [] []]), (1, .box [.clo 31 [] []]), (0, .box [.int .i64, .str, .int .i64, .int .i64, .int .i64, .str, .sl (.mu 0), .int .i64, .int .i64, .int .i64, .str, .sl (.mu 0), .int .i64, .int .i64, .sl (.mu 0), .sl (.mu 1), .sl (.mu 2), .sl (.mu 2)])], 3⟩
def x_check_isStmt_64_0_1_1 : StS := ⟨[(4, .int .i64)], [(2, .box [.clo 31 [] []]), (1, .box [.clo 31 [] []]), (0, .box [.int .i64, .str, .int .i64, .int .i64, .int .i64, .str, .sl (.mu 0), .int .i64, .int .i64, .int .i64, .str, .sl (.mu 0), .int .i64, .int .i64, .sl (.mu 0), .sl (.mu 1), .sl (.mu 2), .sl (.mu 2)])], 3⟩
abbrev X_check_isStmt_64_0_1 := ((List (RT.C 2)) × Int × Int × Int × ByteArray × Int × Int × Int × ByteArray × (List (RT.C 0)) × Int × Int × Int × ByteArray × (List (RT.C 0)) × Int × Int × (List (RT.C 0)) × (List (RT.C 1)) × (List (RT.C 2)) × (List (RT.C 2)))
def fl_check_isStmt_64_0_1 (d : StD s_check_isStmt_64_0_1) : X_check_isStmt_64_0_1 := (d.1.1, d.1.2.2.1, d.1.2.2.2.1, d.2.2.2.1.1, d.2.2.2.1.2.1, d.2.2.2.1.2.2.1, d.2.2.2.1.2.2.2.1, d.2.2.2.1.2.2.2.2.1, d.2.2.2.1.2.2.2.2.2.1, d.2.2.2.1.2.2.2.2.2.2.1, d.2.2.2.1.2.2.2.2.2.2.2.1, d.2.2.2.1.2.2.2.2.2.2.2.2.1, d.2.2.2.1.2.2.2.2.2.2.2.2.2.1, d.2.2.2.1.2.2.2.2.2.2.2.2.2.2.1, d.2.2.2.1.2.2.2.2.2.2.2.2.2.2.2.1, d.2.2.2.1.2.2.2.2.2.2.2.2.2.2.2.2.1, d.2.2.2.1.2.2.2.2.2.2.2.2.2.2.2.2.2.1, d.2.2.2.1.2.2.2.2.2.2.2.2.2.2.2.2.2.2.1, d.2.2.2.1.2.2.2.2.2.2.2.2.2.2.2.2.2.2.2.1, d.2.2.2.1.2.2.2.2.2.2.2.2.2.2.2.2.2.2.2.2.1, d.2.2.2.1.2.2.2.2.2.2.2.2.2.2.2.2.2.2.2.2.2.1)
def un_check_isStmt_64_0_1 (x : X_check_isStmt_64_0_1) : StD s_check_isStmt_64_0_1 := ((x.1, ((), ((), ())), x.2.1, x.2.2.1, ()), ((((), ()), ()), (((), ()), ()), (x.2.2.2.1, x.2.2.2.2.1, x.2.2.2.2.2.1, x.2.2.2.2.2.2.1, x.2.2.2.2.2.2.2.1, x.2.2.2.2.2.2.2.2.1, x.2.2.2.2.2.2.2.2.2.1, x.2.2.2.2.2.2.2.2.2.2.1, x.2.2.2.2.2.2.2.2.2.2.2.1, x.2.2.2.2.2.2.2.2.2.2.2.2.1, x.2.2.2.2.2.2.2.2.2.2.2.2.2.1, x.2.2.2.2.2.2.2.2.2.2.2.2.2.2.1, x.2.2.2.2.2.2.2.2.2.2.2.2.2.2.2.1, x.2.2.2.2.2.2.2.2.2.2.2.2.2.2.2.2.1, x.2.2.2.2.2.2.2.2.2.2.2.2.2.2.2.2.2.1, x.2.2.2.2.2.2.2.2.2.2.2.2.2.2.2.2.2.2.1, x.2.2.2.2.2.2.2.2.2.2.2.2.2.2.2.2.2.2.2.1, x.2.2.2.2.2.2.2.2.2.2.2.2.2.2.2.2.2.2.2.2, ()), ()))
abbrev X_check_isStmt_64_0_1_0 := (Int × ByteArray × Int × Int × Int × ByteArray × (List (RT.C 0)) × Int × Int × Int × ByteArray × (List (RT.C 0)) × Int × Int × (List (RT.C 0)) × (List (RT.C 1)) × (List (RT.C 2)) × (List (RT.C 2)))
def fl_check_isStmt_64_0_1_0 (d : StD x_check_isStmt_64_0_1_0) : X_check_isStmt_64_0_1_0 := (d.2.2.2.1.1, d.2.2.2.1.2.1, d.2.2.2.1.2.2.1, d.2.2.2.1.2.2.2.1, d.2.2.2.1.2.2.2.2.1, d.2.2.2.1.2.2.2.2.2.1, d.2.2.2.1.2.2.2.2.2.2.1, d.2.2.2.1.2.2.2.2.2.2.2.1, d.2.2.2.1.2.2.2.2.2.2.2.2.1, d.2.2.2.1.2.2.2.2.2.2.2.2.2.1, d.2.2.2.1.2.2.2.2.2.2.2.2.2.2.1, d.2.2.2.1.2.2.2.2.2.2.2.2.2.2.2.1, d.2.2.2.1.2.2.2.2.2.2.2.2.2.2.2.2.1, d.2.2.2.1.2.2.2.2.2.2.2.2.2.2.2.2.2.1, d.2.2.2.1.2.2.2.2.2.2.2.2.2.2.2.2.2.2.1, d.2.2.2.1.2.2.2.2.2.2.2.2.2.2.2.2.2.2.2.1, d.2.2.2.1.2.2.2.2.2.2.2.2.2.2.2.2.2.2.2.2.1, d.2.2.2.1.2.2.2.2.2.2.2.2.2.2.2.2.2.2.2.2.2.1)
def un_check_isStmt_64_0_1_0 (x : X_check_isStmt_64_0_1_0) : StD x_check_isStmt_64_0_1_0 := (((), ()), ((((), ()), ()), (((), ()), ()), (x.1, x.2.1, x.2.2.1, x.2.2.2.1, x.2.2.2.2.1, x.2.2.2.2.2.1, x.2.2.2.2.2.2.1, x.2.2.2.2.2.2.2.1, x.2.2.2.2.2.2.2.2.1, x.2.2.2.2.2.2.2.2.2.1, x.2.2.2.2.2.2.2.2.2.2.1, x.2.2.2.2.2.2.2.2.2.2.2.1, x.2.2.2.2.2.2.2.2.2.2.2.2.1, x.2.2.2.2.2.2.2.2.2.2.2.2.2.1, x.2.2.2.2.2.2.2.2.2.2.2.2.2.2.1, x.2.2.2.2.2.2.2.2.2.2.2.2.2.2.2.1, x.2.2.2.2.2.2.2.2.2.2.2.2.2.2.2.2.1, x.2.2.2.2.2.2.2.2.2.2.2.2.2.2.2.2.2, ()), ()))
abbrev X_check_isStmt_64_0_1_1 := (Int × Int × ByteArray × Int × Int × Int × ByteArray × (List (RT.C 0)) × Int × Int × Int × ByteArray × (List (RT.C 0)) × Int × Int × (List (RT.C 0)) × (List (RT.C 1)) × (List (RT.C 2)) × (List (RT.C 2)))
def fl_check_isStmt_64_0_1_1 (d : StD x_check_isStmt_64_0_1_1) : X_check_isStmt_64_0_1_1 := (d.1.1, d.2.2.2.1.1, d.2.2.2.1.2.1, d.2.2.2.1.2.2.1, d.2.2.2.1.2.2.2.1, d.2.2.2.1.2.2.2.2.1, d.2.2.2.1.2.2.2.2.2.1, d.2.2.2.1.2.2.2.2.2.2.1, d.2.2.2.1.2.2.2.2.2.2.2.1, d.2.2.2.1.2.2.2.2.2.2.2.2.1, d.2.2.2.1.2.2.2.2.2.2.2.2.2.1, d.2.2.2.1.2.2.2.2.2.2.2.2.2.2.1, d.2.2.2.1.2.2.2.2.2.2.2.2.2.2.2.1, d.2.2.2.1.2.2.2.2.2.2.2.2.2.2.2.2.1, d.2.2.2.1.2.2.2.2.2.2.2.2.2.2.2.2.2.1, d.2.2.2.1.2.2.2.2.2.2.2.2.2.2.2.2.2.2.1, d.2.2.2.1.2.2.2.2.2.2.2.2.2.2.2.2.2.2.2.1, d.2.2.2.1.2.2.2.2.2.2.2.2.2.2.2.2.2.2.2.2.1, d.2.2.2.1.2.2.2.2.2.2.2.2.2.2.2.2.2.2.2.2.2.1)
def un_check_isStmt_64_0_1_1 (x : X_check_isStmt_64_0_1_1) : StD x_check_isStmt_64_0_1_1 := ((x.1, ()), ((((), ()), ()), (((), ()), ()), (x.2.1, x.2.2.1, x.2.2.2.1, x.2.2.2.2.1, x.2.2.2.2.2.1, x.2.2.2.2.2.2.1, x.2.2.2.2.2.2.2.1, x.2.2.2.2.2.2.2.2.1, x.2.2.2.2.2.2.2.2.2.1, x.2.2.2.2.2.2.2.2.2.2.1, x.2.2.2.2.2.2.2.2.2.2.2.1, x.2.2.2.2.2.2.2.2.2.2.2.2.1, x.2.2.2.2.2.2.2.2.2.2.2.2.2.1, x.2.2.2.2.2.2.2.2.2.2.2.2.2.2.1, x.2.2.2.2.2.2.2.2.2.2.2.2.2.2.2.1, x.2.2.2.2.2.2.2.2.2.2.2.2.2.2.2.2.1, x.2.2.2.2.2.2.2.2.2.2.2.2.2.2.2.2.2.1, x.2.2.2.2.2.2.2.2.2.2.2.2.2.2.2.2.2.2, ()), ()))
noncomputable def st_check_isStmt_64_0_1 (s0 : (List (RT.C 2))) (s7 : Int) (s8 : Int) (b0 : Int) (b0_1 : ByteArray) (b0_2 : Int) (b0_3 : Int) (b0_4 : Int) (b0_5 : ByteArray) (b0_6 : (List (RT.C 0))) (b0_7 : Int) (b0_8 : Int) (b0_9 : Int) (b0_10 : ByteArray) (b0_11 : (List (RT.C 0))) (b0_12 : Int) (b0_13 : Int) (b0_14 : (List (RT.C 0))) (b0_15 : (List (RT.C 1))) (b0_16 : (List (RT.C 2))) (b0_17 : (List (RT.C 2))) : Option (((List (RT.C 2)) × Int × Int × Int × ByteArray × Int × Int × Int × ByteArray × (List (RT.C 0)) × Int × Int × Int × ByteArray × (List (RT.C 0)) × Int × Int × (List (RT.C 0)) × (List (RT.C 1)) × (List (RT.C 2)) × (List (RT.C 2))) ⊕ ((Int × ByteArray × Int × Int × Int × ByteArray × (List (RT.C 0)) × Int × Int × Int × ByteArray × (List (RT.C 0)) × Int × Int × (List (RT.C 0)) × (List (RT.C 1)) × (List (RT.C 2)) × (List (RT.C 2))) ⊕ (Int × Int × ByteArray × Int × Int × Int × ByteArray × (List (RT.C 0)) × Int × Int × Int × ByteArray × (List (RT.C 0)) × Int × Int × (List (RT.C 0)) × (List (RT.C 1)) × (List (RT.C 2)) × (List (RT.C 2))))) :=
  bif decide (s8 < s7) then
 bif decide (0 ≤ s8) then
 optC s0[s8.toNat]? none fun d25 ↦
 optC (Rec_check_isStmt.K (uT2 d25, ())) none fun d26 ↦
 bif !d26 then some (Sum.inr (Sum.inr (s8, b0, b0_1, b0_2, b0_3, b0_4, b0_5, b0_6, b0_7, b0_8, b0_9, b0_10, b0_11, b0_12, b0_13, b0_14, b0_15, b0_16, b0_17)))
 else some (Sum.inl (s0, s7, Go.IntKind.i64.wrap (s8 + 1), b0, b0_1, b0_2, b0_3, b0_4, b0_5, b0_6, b0_7, b0_8, b0_9, b0_10, b0_11, b0_12, b0_13, b0_14, b0_15, b0_16, b0_17))
 else none
 else some (Sum.inr (Sum.inl (b0, b0_1, b0_2, b0_3, b0_4, b0_5, b0_6, b0_7, b0_8, b0_9, b0_10, b0_11, b0_12, b0_13, b0_14, b0_15, b0_16, b0_17)))
noncomputable def sx_check_isStmt_64_0_1 (x : X_check_isStmt_64_0_1) : Option (X_check_isStmt_64_0_1 ⊕ (X_check_isStmt_64_0_1_0 ⊕ X_check_isStmt_64_0_1_1)) := st_check_isStmt_64_0_1 x.1 x.2.1 x.2.2.1 x.2.2.2.1 x.2.2.2.2.1 x.2.2.2.2.2.1 x.2.2.2.2.2.2.1 x.2.2.2.2.2.2.2.1 x.2.2.2.2.2.2.2.2.1 x.2.2.2.2.2.2.2.2.2.1 x.2.2.2.2.2.2.2.2.2.2.1 x.2.2.2.2.2.2.2.2.2.2.2.1 x.2.2.2.2.2.2.2.2.2.2.2.2.1 x.2.2.2.2.2.2.2.2.2.2.2.2.2.1 x.2.2.2.2.2.2.2.2.2.2.2.2.2.2.1 x.2.2.2.2.2.2.2.2.2.2.2.2.2.2.2.1 x.2.2.2.2.2.2.2.2.2.2.2.2.2.2.2.2.1 x.2.2.2.2.2.2.2.2.2.2.2.2.2.2.2.2.2.1 x.2.2.2.2.2.2.2.2.2.2.2.2.2.2.2.2.2.2.1 x.2.2.2.2.2.2.2.2.2.2.2.2.2.2.2.2.2.2.2.1 x.2.2.2.2.2.2.2.2.2.2.2.2.2.2.2.2.2.2.2.2
theorem rn_check_isStmt_64_0_1 (x : X_check_isStmt_64_0_1) : rdX (cxU sp_check_isStmt [] 40 (1048576 ^ 9)) keeps 8 ⟨64, 19, keeps 64, 3⟩ 0 (bodyX 64 0) 3 kp_check_isStmt_64_0 (sT s_check_isStmt_64_0_1 (un_check_isStmt_64_0_1 x)) (sH s_check_isStmt_64_0_1 (un_check_isStmt_64_0_1 x)) (rdO (fun T h => (rdS s_check_isStmt_64_0_1 T h).map fl_check_isStmt_64_0_1) (getOr (getE 2 x_check_isStmt_64_0_1_0 fl_check_isStmt_64_0_1_0) (getE 1 x_check_isStmt_64_0_1_1 fl_check_isStmt_64_0_1_1))) = sx_check_isStmt_64_0_1 x := by kernel_rfl
noncomputable def L_check_isStmt_64_0_1 (x : X_check_isStmt_64_0_1) : Option (X_check_isStmt_64_0_1_0 ⊕ X_check_isStmt_64_0_1_1) := iterO (fun x => st_check_isStmt_64_0_1 x.1 x.2.1 x.2.2.1 x.2.2.2.1 x.2.2.2.2.1 x.2.2.2.2.2.1 x.2.2.2.2.2.2.1 x.2.2.2.2.2.2.2.1 x.2.2.2.2.2.2.2.2.1 x.2.2.2.2.2.2.2.2.2.1 x.2.2.2.2.2.2.2.2.2.2.1 x.2.2.2.2.2.2.2.2.2.2.2.1 x.2.2.2.2.2.2.2.2.2.2.2.2.1 x.2.2.2.2.2.2.2.2.2.2.2.2.2.1 x.2.2.2.2.2.2.2.2.2.2.2.2.2.2.1 x.2.2.2.2.2.2.2.2.2.2.2.2.2.2.2.1 x.2.2.2.2.2.2.2.2.2.2.2.2.2.2.2.2.1 x.2.2.2.2.2.2.2.2.2.2.2.2.2.2.2.2.2.1 x.2.2.2.2.2.2.2.2.2.2.2.2.2.2.2.2.2.2.1 x.2.2.2.2.2.2.2.2.2.2.2.2.2.2.2.2.2.2.2.1 x.2.2.2.2.2.2.2.2.2.2.2.2.2.2.2.2.2.2.2.2) FUEL x
def s_check_isStmt_64_0_0 : StS := ⟨[(0, .sl (.mu 2)), (1, .clo 37 [] [.ptr 1 0]), (7, .int .i64), (8, .int .i64)], [(1, .box [.clo 31 [] []]), (0, .box [.int .i64, .str, .int .i64, .int .i64, .int .i64, .str, .sl (.mu 0), .int .i64, .int .i64, .int .i64, .str, .sl (.mu 0), .int .i64, .int .i64, .sl (.mu 0), .sl (.mu 1), .sl (.mu 2), .sl (.mu 2)])], 2⟩
def x_check_isStmt_64_0_0_0 : StS := ⟨[(4, .undef)], [(1, .box [.clo 31 [] []]), (0, .box [.int .i64, .str, .int .i64, .int .i64, .int .i64, .str, .sl (.mu 0), .int .i64, .int .i64, .int .i64, .str, .sl (.mu 0), .int .i64, .int .i64, .sl (.mu 0), .sl (.mu 1), .sl (.mu 2), .sl (.mu 2)])], 2⟩
def x_check_isStmt_64_0_0_1 : StS := ⟨[(4, .int .i64)], [(1, .box [.clo 31 [] []]), (0, .box [.int .i64, .str, .int .i64, .int .i64, .int .i64, .str, .sl (.mu 0), .int .i64, .int .i64, .int .i64, .str, .sl (.mu 0), .int .i64, .int .i64, .sl (.mu 0), .sl (.mu 1), .sl (.mu 2), .sl (.mu 2)])], 2⟩
abbrev X_check_isStmt_64_0_0 := ((List (RT.C 2)) × Int × Int × Int × ByteArray × Int × Int × Int × ByteArray × (List (RT.C 0)) × Int × Int × Int × ByteArray × (List (RT.C 0)) × Int × Int × (List (RT.C 0)) × (List (RT.C 1)) × (List (RT.C 2)) × (List (RT.C 2)))
def fl_check_isStmt_64_0_0 (d : StD s_check_isStmt_64_0_0) : X_check_isStmt_64_0_0 := (d.1.1, d.1.2.2.1, d.1.2.2.2.1, d.2.2.1.1, d.2.2.1.2.1, d.2.2.1.2.2.1, d.2.2.1.2.2.2.1, d.2.2.1.2.2.2.2.1, d.2.2.1.2.2.2.2.2.1, d.2.2.1.2.2.2.2.2.2.1, d.2.2.1.2.2.2.2.2.2.2.1, d.2.2.1.2.2.2.2.2.2.2.2.1, d.2.2.1.2.2.2.2.2.2.2.2.2.1, d.2.2.1.2.2.2.2.2.2.2.2.2.2.1, d.2.2.1.2.2.2.2.2.2.2.2.2.2.2.1, d.2.2.1.2.2.2.2.2.2.2.2.2.2.2.2.1, d.2.2.1.2.2.2.2.2.2.2.2.2.2.2.2.2.1, d.2.2.1.2.2.2.2.2.2.2.2.2.2.2.2.2.2.1, d.2.2.1.2.2.2.2.2.2.2.2.2.2.2.2.2.2.2.1, d.2.2.1.2.2.2.2.2.2.2.2.2.2.2.2.2.2.2.2.1, d.2.2.1.2.2.2.2.2.2.2.2.2.2.2.2.2.2.2.2.2.1)
def un_check_isStmt_64_0_0 (x : X_check_isStmt_64_0_0) : StD s_check_isStmt_64_0_0 := ((x.1, ((), ((), ())), x.2.1, x.2.2.1, ()), ((((), ()), ()), (x.2.2.2.1, x.2.2.2.2.1, x.2.2.2.2.2.1, x.2.2.2.2.2.2.1, x.2.2.2.2.2.2.2.1, x.2.2.2.2.2.2.2.2.1, x.2.2.2.2.2.2.2.2.2.1, x.2.2.2.2.2.2.2.2.2.2.1, x.2.2.2.2.2.2.2.2.2.2.2.1, x.2.2.2.2.2.2.2.2.2.2.2.2.1, x.2.2.2.2.2.2.2.2.2.2.2.2.2.1, x.2.2.2.2.2.2.2.2.2.2.2.2.2.2.1, x.2.2.2.2.2.2.2.2.2.2.2.2.2.2.2.1, x.2.2.2.2.2.2.2.2.2.2.2.2.2.2.2.2.1, x.2.2.2.2.2.2.2.2.2.2.2.2.2.2.2.2.2.1, x.2.2.2.2.2.2.2.2.2.2.2.2.2.2.2.2.2.2.1, x.2.2.2.2.2.2.2.2.2.2.2.2.2.2.2.2.2.2.2.1, x.2.2.2.2.2.2.2.2.2.2.2.2.2.2.2.2.2.2.2.2, ()), ()))
abbrev X_check_isStmt_64_0_0_0 := (Int × ByteArray × Int × Int × Int × ByteArray × (List (RT.C 0)) × Int × Int × Int × ByteArray × (List (RT.C 0)) × Int × Int × (List (RT.C 0)) × (List (RT.C 1)) × (List (RT.C 2)) × (List (RT.C 2)))
def fl_check_isStmt_64_0_0_0 (d : StD x_check_isStmt_64_0_0_0) : X_check_isStmt_64_0_0_0 := (d.2.2.1.1, d.2.2.1.2.1, d.2.2.1.2.2.1, d.2.2.1.2.2.2.1, d.2.2.1.2.2.2.2.1, d.2.2.1.2.2.2.2.2.1, d.2.2.1.2.2.2.2.2.2.1, d.2.2.1.2.2.2.2.2.2.2.1, d.2.2.1.2.2.2.2.2.2.2.2.1, d.2.2.1.2.2.2.2.2.2.2.2.2.1, d.2.2.1.2.2.2.2.2.2.2.2.2.2.1, d.2.2.1.2.2.2.2.2.2.2.2.2.2.2.1, d.2.2.1.2.2.2.2.2.2.2.2.2.2.2.2.1, d.2.2.1.2.2.2.2.2.2.2.2.2.2.2.2.2.1, d.2.2.1.2.2.2.2.2.2.2.2.2.2.2.2.2.2.1, d.2.2.1.2.2.2.2.2.2.2.2.2.2.2.2.2.2.2.1, d.2.2.1.2.2.2.2.2.2.2.2.2.2.2.2.2.2.2.2.1, d.2.2.1.2.2.2.2.2.2.2.2.2.2.2.2.2.2.2.2.2.1)
def un_check_isStmt_64_0_0_0 (x : X_check_isStmt_64_0_0_0) : StD x_check_isStmt_64_0_0_0 := (((), ()), ((((), ()), ()), (x.1, x.2.1, x.2.2.1, x.2.2.2.1, x.2.2.2.2.1, x.2.2.2.2.2.1, x.2.2.2.2.2.2.1, x.2.2.2.2.2.2.2.1, x.2.2.2.2.2.2.2.2.1, x.2.2.2.2.2.2.2.2.2.1, x.2.2.2.2.2.2.2.2.2.2.1, x.2.2.2.2.2.2.2.2.2.2.2.1, x.2.2.2.2.2.2.2.2.2.2.2.2.1, x.2.2.2.2.2.2.2.2.2.2.2.2.2.1, x.2.2.2.2.2.2.2.2.2.2.2.2.2.2.1, x.2.2.2.2.2.2.2.2.2.2.2.2.2.2.2.1, x.2.2.2.2.2.2.2.2.2.2.2.2.2.2.2.2.1, x.2.2.2.2.2.2.2.2.2.2.2.2.2.2.2.2.2, ()), ()))
abbrev X_check_isStmt_64_0_0_1 := (Int × Int × ByteArray × Int × Int × Int × ByteArray × (List (RT.C 0)) × Int × Int × Int × ByteArray × (List (RT.C 0)) × Int × Int × (List (RT.C 0)) × (List (RT.C 1)) × (List (RT.C 2)) × (List (RT.C 2)))
def fl_check_isStmt_64_0_0_1 (d : StD x_check_isStmt_64_0_0_1) : X_check_isStmt_64_0_0_1 := (d.1.1, d.2.2.1.1, d.2.2.1.2.1, d.2.2.1.2.2.1, d.2.2.1.2.2.2.1, d.2.2.1.2.2.2.2.1, d.2.2.1.2.2.2.2.2.1, d.2.2.1.2.2.2.2.2.2.1, d.2.2.1.2.2.2.2.2.2.2.1, d.2.2.1.2.2.2.2.2.2.2.2.1, d.2.2.1.2.2.2.2.2.2.2.2.2.1, d.2.2.1.2.2.2.2.2.2.2.2.2.2.1, d.2.2.1.2.2.2.2.2.2.2.2.2.2.2.1, d.2.2.1.2.2.2.2.2.2.2.2.2.2.2.2.1, d.2.2.1.2.2.2.2.2.2.2.2.2.2.2.2.2.1, d.2.2.1.2.2.2.2.2.2.2.2.2.2.2.2.2.2.1, d.2.2.1.2.2.2.2.2.2.2.2.2.2.2.2.2.2.2.1, d.2.2.1.2.2.2.2.2.2.2.2.2.2.2.2.2.2.2.2.1, d.2.2.1.2.2.2.2.2.2.2.2.2.2.2.2.2.2.2.2.2.1)
def un_check_isStmt_64_0_0_1 (x : X_check_isStmt_64_0_0_1) : StD x_check_isStmt_64_0_0_1 := ((x.1, ()), ((((), ()), ()), (x.2.1, x.2.2.1, x.2.2.2.1, x.2.2.2.2.1, x.2.2.2.2.2.1, x.2.2.2.2.2.2.1, x.2.2.2.2.2.2.2.1, x.2.2.2.2.2.2.2.2.1, x.2.2.2.2.2.2.2.2.2.1, x.2.2.2.2.2.2.2.2.2.2.1, x.2.2.2.2.2.2.2.2.2.2.2.1, x.2.2.2.2.2.2.2.2.2.2.2.2.1, x.2.2.2.2.2.2.2.2.2.2.2.2.2.1, x.2.2.2.2.2.2.2.2.2.2.2.2.2.2.1, x.2.2.2.2.2.2.2.2.2.2.2.2.2.2.2.1, x.2.2.2.2.2.2.2.2.2.2.2.2.2.2.2.2.1, x.2.2.2.2.2.2.2.2.2.2.2.2.2.2.2.2.2.1, x.2.2.2.2.2.2.2.2.2.2.2.2.2.2.2.2.2.2, ()), ()))
noncomputable def st_check_isStmt_64_0_0 (s0 : (List (RT.C 2))) (s7 : Int) (s8 : Int) (b0 : Int) (b0_1 : ByteArray) (b0_2 : Int) (b0_3 : Int) (b0_4 : Int) (b0_5 : ByteArray) (b0_6 : (List (RT.C 0))) (b0_7 : Int) (b0_8 : Int) (b0_9 : Int) (b0_10 : ByteArray) (b0_11 : (List (RT.C 0))) (b0_12 : Int) (b0_13 : Int) (b0_14 : (List (RT.C 0))) (b0_15 : (List (RT.C 1))) (b0_16 : (List (RT.C 2))) (b0_17 : (List (RT.C 2))) : Option (((List (RT.C 2)) × Int × Int × Int × ByteArray × Int × Int × Int × ByteArray × (List (RT.C 0)) × Int × Int × Int × ByteArray × (List (RT.C 0)) × Int × Int × (List (RT.C 0)) × (List (RT.C 1)) × (List (RT.C 2)) × (List (RT.C 2))) ⊕ ((Int × ByteArray × Int × Int × Int × ByteArray × (List (RT.C 0)) × Int × Int × Int × ByteArray × (List (RT.C 0)) × Int × Int × (List (RT.C 0)) × (List (RT.C 1)) × (List (RT.C 2)) × (List (RT.C 2))) ⊕ (Int × Int × ByteArray × Int × Int × Int × ByteArray × (List (RT.C 0)) × Int × Int × Int × ByteArray × (List (RT.C 0)) × Int × Int × (List (RT.C 0)) × (List (RT.C 1)) × (List (RT.C 2)) × (List (RT.C 2))))) :=
  bif decide (s8 < s7) then
 bif decide (0 ≤ s8) then
 optC s0[s8.toNat]? none fun d25 ↦
 optC (Rec_check_isStmt.K (uT2 d25, ())) none fun d26 ↦
 bif !d26 then some (Sum.inr (Sum.inr (s8, b0, b0_1, b0_2, b0_3, b0_4, b0_5, b0_6, b0_7, b0_8, b0_9, b0_10, b0_11, b0_12, b0_13, b0_14, b0_15, b0_16, b0_17)))
 else some (Sum.inl (s0, s7, Go.IntKind.i64.wrap (s8 + 1), b0, b0_1, b0_2, b0_3, b0_4, b0_5, b0_6, b0_7, b0_8, b0_9, b0_10, b0_11, b0_12, b0_13, b0_14, b0_15, b0_16, b0_17))
 else none
 else some (Sum.inr (Sum.inl (b0, b0_1, b0_2, b0_3, b0_4, b0_5, b0_6, b0_7, b0_8, b0_9, b0_10, b0_11, b0_12, b0_13, b0_14, b0_15, b0_16, b0_17)))
noncomputable def sx_check_isStmt_64_0_0 (x : X_check_isStmt_64_0_0) : Option (X_check_isStmt_64_0_0 ⊕ (X_check_isStmt_64_0_0_0 ⊕ X_check_isStmt_64_0_0_1)) := st_check_isStmt_64_0_0 x.1 x.2.1 x.2.2.1 x.2.2.2.1 x.2.2.2.2.1 x.2.2.2.2.2.1 x.2.2.2.2.2.2.1 x.2.2.2.2.2.2.2.1 x.2.2.2.2.2.2.2.2.1 x.2.2.2.2.2.2.2.2.2.1 x.2.2.2.2.2.2.2.2.2.2.1 x.2.2.2.2.2.2.2.2.2.2.2.1 x.2.2.2.2.2.2.2.2.2.2.2.2.1 x.2.2.2.2.2.2.2.2.2.2.2.2.2.1 x.2.2.2.2.2.2.2.2.2.2.2.2.2.2.1 x.2.2.2.2.2.2.2.2.2.2.2.2.2.2.2.1 x.2.2.2.2.2.2.2.2.2.2.2.2.2.2.2.2.1 x.2.2.2.2.2.2.2.2.2.2.2.2.2.2.2.2.2.1 x.2.2.2.2.2.2.2.2.2.2.2.2.2.2.2.2.2.2.1 x.2.2.2.2.2.2.2.2.2.2.2.2.2.2.2.2.2.2.2.1 x.2.2.2.2.2.2.2.2.2.2.2.2.2.2.2.2.2.2.2.2
theorem rn_check_isStmt_64_0_0 (x : X_check_isStmt_64_0_0) : rdX (cxU sp_check_isStmt [] 40 (1048576 ^ 9)) keeps 8 ⟨64, 19, keeps 64, 2⟩ 0 (bodyX 64 0) 2 kp_check_isStmt_64_0 (sT s_check_isStmt_64_0_0 (un_check_isStmt_64_0_0 x)) (sH s_check_isStmt_64_0_0 (un_check_isStmt_64_0_0 x)) (rdO (fun T h => (rdS s_check_isStmt_64_0_0 T h).map fl_check_isStmt_64_0_0) (getOr (getE 2 x_check_isStmt_64_0_0_0 fl_check_isStmt_64_0_0_0) (getE 1 x_check_isStmt_64_0_0_1 fl_check_isStmt_64_0_0_1))) = sx_check_isStmt_64_0_0 x := by kernel_rfl
noncomputable def L_check_isStmt_64_0_0 (x : X_check_isStmt_64_0_0) : Option (X_check_isStmt_64_0_0_0 ⊕ X_check_isStmt_64_0_0_1) := iterO (fun x => st_check_isStmt_64_0_0 x.1 x.2.1 x.2.2.1 x.2.2.2.1 x.2.2.2.2.1 x.2.2.2.2.2.1 x.2.2.2.2.2.2.1 x.2.2.2.2.2.2.2.1 x.2.2.2.2.2.2.2.2.1 x.2.2.2.2.2.2.2.2.2.1 x.2.2.2.2.2.2.2.2.2.2.1 x.2.2.2.2.2.2.2.2.2.2.2.1 x.2.2.2.2.2.2.2.2.2.2.2.2.1 x.2.2.2.2.2.2.2.2.2.2.2.2.2.1 x.2.2.2.2.2.2.2.2.2.2.2.2.2.2.1 x.2.2.2.2.2.2.2.2.2.2.2.2.2.2.2.1 x.2.2.2.2.2.2.2.2.2.2.2.2.2.2.2.2.1 x.2.2.2.2.2.2.2.2.2.2.2.2.2.2.2.2.2.1 x.2.2.2.2.2.2.2.2.2.2.2.2.2.2.2.2.2.2.1 x.2.2.2.2.2.2.2.2.2.2.2.2.2.2.2.2.2.2.2.1 x.2.2.2.2.2.2.2.2.2.2.2.2.2.2.2.2.2.2.2.2) FUEL x
noncomputable def q_check_isStmt_64_0 : Nat → Tm → Prog (Nat × Tm) := (varP 2 (fun T h => (rdS s_check_isStmt_64_0_0 T h).map fl_check_isStmt_64_0_0) L_check_isStmt_64_0_0 (fun y => .alt y (altE 2 x_check_isStmt_64_0_0_0 un_check_isStmt_64_0_0_0) (altE 1 x_check_isStmt_64_0_0_1 un_check_isStmt_64_0_0_1)) (varP 3 (fun T h => (rdS s_check_isStmt_64_0_1 T h).map fl_check_isStmt_64_0_1) L_check_isStmt_64_0_1 (fun y => .alt y (altE 2 x_check_isStmt_64_0_1_0 un_check_isStmt_64_0_1_0) (altE 1 x_check_isStmt_64_0_1_1 un_check_isStmt_64_0_1_1)) (fun _ _ => .fail)))
noncomputable def lc_check_isStmt_64_0 : Lpc := ⟨64, 0, 19, (fun base T => .norm base (kp_check_isStmt_64_0 0) T (q_check_isStmt_64_0 base)), by kernel_rfl, by kernel_rfl, (loopU sp_check_isStmt [] 40 (1048576 ^ 9) 8 (keep := kp_check_isStmt_64_0) (q := q_check_isStmt_64_0) (by kernel_rfl) (varX_ok (s := s_check_isStmt_64_0_0) (un := un_check_isStmt_64_0_0) (by rfl) (fun _ => rfl) (getOr_ok (getE_ok (s := x_check_isStmt_64_0_0_0) (un := un_check_isStmt_64_0_0_0) (by rfl) (fun _ => rfl)) (getE_ok (s := x_check_isStmt_64_0_0_1) (un := un_check_isStmt_64_0_0_1) (by rfl) (fun _ => rfl))) (step := sx_check_isStmt_64_0_0) rn_check_isStmt_64_0_0 (fun _ _ e => ⟨_, e⟩) (altOr_ok (altE_ok 2 x_check_isStmt_64_0_0_0 un_check_isStmt_64_0_0_0) (altE_ok 1 x_check_isStmt_64_0_0_1 un_check_isStmt_64_0_0_1)) (varX_ok (s := s_check_isStmt_64_0_1) (un := un_check_isStmt_64_0_1) (by rfl) (fun _ => rfl) (getOr_ok (getE_ok (s := x_check_isStmt_64_0_1_0) (un := un_check_isStmt_64_0_1_0) (by rfl) (fun _ => rfl)) (getE_ok (s := x_check_isStmt_64_0_1_1) (un := un_check_isStmt_64_0_1_1) (by rfl) (fun _ => rfl))) (step := sx_check_isStmt_64_0_1) rn_check_isStmt_64_0_1 (fun _ _ e => ⟨_, e⟩) (altOr_ok (altE_ok 2 x_check_isStmt_64_0_1_0 un_check_isStmt_64_0_1_0) (altE_ok 1 x_check_isStmt_64_0_1_1 un_check_isStmt_64_0_1_1)) (VarOk.fail _ _))))⟩
noncomputable def g_check_isStmt (a0 : Stm) : Option Bool :=
  bif a0.1 == 1 then
 optC (G_check_isName (a0.2.1, ())) none fun d5 ↦
 bif d5 then optC (G_check_isExpr (a0.2.2.2.1, ())) none fun d6 ↦ some d6 else some false
 else
 bif a0.1 == 2 then
 optC (G_check_isName (a0.2.1, ())) none fun d5 ↦
 bif d5 then
 optC (G_check_isExpr (a0.2.2.1, ())) none fun d6 ↦
 bif d6 then optC (G_check_isExpr (a0.2.2.2.1, ())) none fun d7 ↦ some d7 else some false
 else some false
 else
 bif a0.1 == 3 then optC (G_check_isName (a0.2.1, ())) none fun d5 ↦ some d5
 else
 bif a0.1 == 4 then optC (G_check_isName (a0.2.1, ())) none fun d5 ↦ some d5
 else
 bif a0.1 == 5 then
 optC (G_check_isCond (a0.2.2.2.2.1, ())) none fun d5 ↦
 bif d5 then
 optC
 (L_check_isStmt_64_0_0
 (a0.2.2.2.2.2.1, (↑(List.length a0.2.2.2.2.2.1) : Int), 0, a0.1, a0.2.1, a0.2.2.1.1, a0.2.2.1.2.1, a0.2.2.1.2.2.1,
 a0.2.2.1.2.2.2.1, a0.2.2.1.2.2.2.2, a0.2.2.2.1.1, a0.2.2.2.1.2.1, a0.2.2.2.1.2.2.1,
 a0.2.2.2.1.2.2.2.1, a0.2.2.2.1.2.2.2.2, a0.2.2.2.2.1.1, a0.2.2.2.2.1.2.1, a0.2.2.2.2.1.2.2.1,
 a0.2.2.2.2.1.2.2.2, a0.2.2.2.2.2))
 none fun d6 ↦
 Sum.elim
 (fun e7 ↦
 optC
 (L_check_isStmt_64_0_1
 (e7.2.2.2.2.2.2.2.2.2.2.2.2.2.2.2.2.2, (↑e7.2.2.2.2.2.2.2.2.2.2.2.2.2.2.2.2.2.length : Int), 0, e7))
 none fun d8 ↦ Sum.elim (fun e9 ↦ some !decide (-1 ≥ 0)) (fun e9 ↦ some !decide (e9.1 ≥ 0)) d8)
 (fun e7 ↦
 bif !decide (e7.1 ≥ 0) then
 optC
 (L_check_isStmt_64_0_1
 (e7.2.2.2.2.2.2.2.2.2.2.2.2.2.2.2.2.2.2, (↑e7.2.2.2.2.2.2.2.2.2.2.2.2.2.2.2.2.2.2.length : Int), 0,
 e7.2))
 none fun d8 ↦ Sum.elim (fun e9 ↦ some !decide (-1 ≥ 0)) (fun e9 ↦ some !decide (e9.1 ≥ 0)) d8
 else some false)
 d6
 else some false
 else
 bif a0.1 == 6 then
 optC (G_check_isCond (a0.2.2.2.2.1, ())) none fun d5 ↦
 bif d5 then
 optC
 (L_check_isStmt_64_0_0
 (a0.2.2.2.2.2.1, (↑(List.length a0.2.2.2.2.2.1) : Int), 0, a0.1, a0.2.1, a0.2.2.1.1, a0.2.2.1.2.1, a0.2.2.1.2.2.1,
 a0.2.2.1.2.2.2.1, a0.2.2.1.2.2.2.2, a0.2.2.2.1.1, a0.2.2.2.1.2.1, a0.2.2.2.1.2.2.1,
 a0.2.2.2.1.2.2.2.1, a0.2.2.2.1.2.2.2.2, a0.2.2.2.2.1.1, a0.2.2.2.2.1.2.1, a0.2.2.2.2.1.2.2.1,
 a0.2.2.2.2.1.2.2.2, a0.2.2.2.2.2))
 none fun d6 ↦ Sum.elim (fun e7 ↦ some !decide (-1 ≥ 0)) (fun e7 ↦ some !decide (e7.1 ≥ 0)) d6
 else some false
 else bif a0.1 == 7 then optC (G_check_isCond (a0.2.2.2.2.1, ())) none fun d5 ↦ some d5 else some (a0.1 == 8)
theorem raw_check_isStmt (a0 : Stm) : evGX1 (cxU sp_check_isStmt [lc_check_isStmt_64_0] 40 (1048576 ^ 9)) keeps 8 31 ash_check_isStmt (.dat .bool) ((a0, ()) : (Stm × Unit)) = g_check_isStmt a0 := by kernel_rfl
noncomputable def GI_check_isStmt (x : (Stm × Unit)) : Option Bool := g_check_isStmt x.1
noncomputable def conI_check_isStmt : List AV → Prog AV := conP true ash_check_isStmt (.dat .bool) GI_check_isStmt
theorem sndI_check_isStmt : SoundA Tryd.prog 31 conI_check_isStmt := conP_sound (evF1_sound (tabOk_of tab_ok) (cmpsOk_of tab_ok cmps_ok) mixed (inU sp_check_isStmt [lc_check_isStmt_64_0] 40 (1048576 ^ 9)) (hspL sp_check_isStmt) keeps 8 31) true (by rfl) (by rfl) (fun x r e => (evGX1_eq _ _ _ _ _ _ _).trans ((raw_check_isStmt x.1).trans e)) (.inl rfl)
end
noncomputable def it_check_isStmt : Nat → {K : (Stm × Unit) → Option Bool // SoundA Tryd.prog 31 (conP true ash_check_isStmt (.dat .bool) K)}
  | 0 => ⟨fun _ => none, conP_none⟩
  | k + 1 => letI : Rec_check_isStmt := ⟨(it_check_isStmt k).1, (it_check_isStmt k).2⟩; ⟨GI_check_isStmt, sndI_check_isStmt⟩
noncomputable def G_check_isStmt (x : (Stm × Unit)) : Option Bool := (it_check_isStmt (SizeOf.sizeOf x + 1)).1 x
noncomputable def con_check_isStmt : List AV → Prog AV := conP true ash_check_isStmt (.dat .bool) G_check_isStmt
theorem snd_check_isStmt : SoundA Tryd.prog 31 con_check_isStmt := conP_pick (sh := ash_check_isStmt) (rs := .dat .bool) (n := fun x : (Stm × Unit) => SizeOf.sizeOf x + 1) (F := fun k => (it_check_isStmt k).1) (fun k => (it_check_isStmt k).2)
end Go.Proofs.YtmjbedjnojcmfaaDoor.Ex

namespace Go.Proofs.YtmjbedjnojcmfaaDoor.Ex
open Go.Proofs Go.Proofs.YtmjbedjnojcmfaaDoor
set_option maxRecDepth 100000
set_option maxHeartbeats 2000000
set_option linter.unusedVariables false
set_option linter.unusedSimpArgs false
def ash_num_Fits : List Sh := [.dat (.sl (.int .i64))]
def kp_num_Fits_26_0 : Nat → List Nat := fun c => bif c.beq 0 then [5, 6, 7] else [2]
noncomputable def sp_num_Fits : List Con := []
def s_num_Fits_26_0_0 : StS := ⟨[(5, .sl (.int .i64)), (6, .int .i64), (7, .int .i64)], [], 0⟩
def x_num_Fits_26_0_0_0 : StS := ⟨[(2, .undef)], [], 0⟩
def x_num_Fits_26_0_0_1 : StS := ⟨[(2, .bool)], [], 0⟩
abbrev X_num_Fits_26_0_0 := ((List Int) × Int × Int)
def fl_num_Fits_26_0_0 (d : StD s_num_Fits_26_0_0) : X_num_Fits_26_0_0 := (d.1.1, d.1.2.1, d.1.2.2.1)
def un_num_Fits_26_0_0 (x : X_num_Fits_26_0_0) : StD s_num_Fits_26_0_0 := ((x.1, x.2.1, x.2.2, ()), ())
abbrev X_num_Fits_26_0_0_0 := Unit
def fl_num_Fits_26_0_0_0 (d : StD x_num_Fits_26_0_0_0) : X_num_Fits_26_0_0_0 := ()
def un_num_Fits_26_0_0_0 (x : X_num_Fits_26_0_0_0) : StD x_num_Fits_26_0_0_0 := (((), ()), ())
abbrev X_num_Fits_26_0_0_1 := Bool
def fl_num_Fits_26_0_0_1 (d : StD x_num_Fits_26_0_0_1) : X_num_Fits_26_0_0_1 := (d.1.1)
def un_num_Fits_26_0_0_1 (x : X_num_Fits_26_0_0_1) : StD x_num_Fits_26_0_0_1 := ((x, ()), ())
noncomputable def st_num_Fits_26_0_0 (s5 : (List Int)) (s6 : Int) (s7 : Int) : Option (((List Int) × Int × Int) ⊕ (Unit ⊕ Bool)) :=
  bif decide (s7 < s6) then
 bif decide (0 ≤ s7) then
 optC s5[s7.toNat]? none fun d5 ↦
 bif decide (d5 < -2147483648) then some (Sum.inr (Sum.inr false))
 else bif decide (d5 > 2147483647) then some (Sum.inr (Sum.inr false)) else some (Sum.inl (s5, s6, Go.IntKind.i64.wrap (s7 + 1)))
 else none
 else some (Sum.inr (Sum.inl PUnit.unit))
noncomputable def sx_num_Fits_26_0_0 (x : X_num_Fits_26_0_0) : Option (X_num_Fits_26_0_0 ⊕ (X_num_Fits_26_0_0_0 ⊕ X_num_Fits_26_0_0_1)) := st_num_Fits_26_0_0 x.1 x.2.1 x.2.2
theorem rn_num_Fits_26_0_0 (x : X_num_Fits_26_0_0) : rdX (cxU sp_num_Fits [] 40 1048576) keeps 8 ⟨26, 18, keeps 26, 0⟩ 0 (bodyX 26 0) 0 kp_num_Fits_26_0 (sT s_num_Fits_26_0_0 (un_num_Fits_26_0_0 x)) (sH s_num_Fits_26_0_0 (un_num_Fits_26_0_0 x)) (rdO (fun T h => (rdS s_num_Fits_26_0_0 T h).map fl_num_Fits_26_0_0) (getOr (getE 2 x_num_Fits_26_0_0_0 fl_num_Fits_26_0_0_0) (getE 1 x_num_Fits_26_0_0_1 fl_num_Fits_26_0_0_1))) = sx_num_Fits_26_0_0 x := by kernel_rfl
noncomputable def L_num_Fits_26_0_0 (x : X_num_Fits_26_0_0) : Option (X_num_Fits_26_0_0_0 ⊕ X_num_Fits_26_0_0_1) := iterO (fun x => st_num_Fits_26_0_0 x.1 x.2.1 x.2.2) FUEL x
noncomputable def q_num_Fits_26_0 : Nat → Tm → Prog (Nat × Tm) := (varP 0 (fun T h => (rdS s_num_Fits_26_0_0 T h).map fl_num_Fits_26_0_0) L_num_Fits_26_0_0 (fun y => .alt y (altE 2 x_num_Fits_26_0_0_0 un_num_Fits_26_0_0_0) (altE 1 x_num_Fits_26_0_0_1 un_num_Fits_26_0_0_1)) (fun _ _ => .fail))
noncomputable def lc_num_Fits_26_0 : Lpc := ⟨26, 0, 18, (fun base T => .norm base (kp_num_Fits_26_0 0) T (q_num_Fits_26_0 base)), by kernel_rfl, by kernel_rfl, (loopU sp_num_Fits [] 40 1048576 8 (keep := kp_num_Fits_26_0) (q := q_num_Fits_26_0) (by kernel_rfl) (varX_ok (s := s_num_Fits_26_0_0) (un := un_num_Fits_26_0_0) (by rfl) (fun _ => rfl) (getOr_ok (getE_ok (s := x_num_Fits_26_0_0_0) (un := un_num_Fits_26_0_0_0) (by rfl) (fun _ => rfl)) (getE_ok (s := x_num_Fits_26_0_0_1) (un := un_num_Fits_26_0_0_1) (by rfl) (fun _ => rfl))) (step := sx_num_Fits_26_0_0) rn_num_Fits_26_0_0 (fun _ _ e => ⟨_, e⟩) (altOr_ok (altE_ok 2 x_num_Fits_26_0_0_0 un_num_Fits_26_0_0_0) (altE_ok 1 x_num_Fits_26_0_0_1 un_num_Fits_26_0_0_1)) (VarOk.fail _ _)))⟩
noncomputable def g_num_Fits (a0 : (List Int)) : Option Bool :=
  optC (L_num_Fits_26_0_0 (a0, (↑a0.length : Int), 0)) none fun d3 ↦ Sum.elim (fun e4 ↦ some true) (fun e4 ↦ some e4) d3
theorem raw_num_Fits (a0 : (List Int)) : evGX (cxU sp_num_Fits [lc_num_Fits_26_0] 40 1048576) keeps 8 26 ash_num_Fits (.dat .bool) ((a0, ()) : ((List Int) × Unit)) = g_num_Fits a0 := by kernel_rfl
noncomputable def G_num_Fits (x : ((List Int) × Unit)) : Option Bool := g_num_Fits x.1
noncomputable def con_num_Fits : List AV → Prog AV := conP true ash_num_Fits (.dat .bool) G_num_Fits
theorem snd_num_Fits : SoundA Tryd.prog 26 con_num_Fits := conP_sound (calU sp_num_Fits [lc_num_Fits_26_0] 40 1048576 8 26) true (by rfl) (by rfl) (fun x r e => (evGX_eq _ _ _ _ _ _ _).trans ((raw_num_Fits x.1).trans e)) (.inl rfl)
end Go.Proofs.YtmjbedjnojcmfaaDoor.Ex

namespace Go.Proofs.YtmjbedjnojcmfaaDoor.Ex
open Go.Proofs Go.Proofs.YtmjbedjnojcmfaaDoor
set_option maxRecDepth 100000
set_option maxHeartbeats 2000000
set_option linter.unusedVariables false
set_option linter.unusedSimpArgs false
def ash_check_isForm : List Sh := [.dat tPg]
def kp_check_isForm_76_0 : Nat → List Nat := fun c => bif c.beq 0 then [0, 1, 7, 8] else [4]
def kp_check_isForm_68_0 : Nat → List Nat := fun c => bif c.beq 0 then [0, 1, 7, 8] else [4]
def kp_check_isForm_64_0 : Nat → List Nat := fun c => bif c.beq 0 then [0, 1, 7, 8] else [4]
def kp_check_isForm_63_0 : Nat → List Nat := fun c => bif c.beq 0 then [0, 1, 7, 8] else [4]
noncomputable def sp_check_isForm : List Con := [⟨22, con_check_areNames, snd_check_areNames⟩, ⟨25, con_check_isName, snd_check_isName⟩, ⟨31, con_check_isStmt, snd_check_isStmt⟩, ⟨29, con_check_isIn, snd_check_isIn⟩, ⟨26, con_num_Fits, snd_num_Fits⟩]
def s_check_isForm_76_0_0 : StS := ⟨[(0, .sl tGb), (1, .clo 56 [] [.ptr 1 0]), (7, .int .i64), (8, .int .i64)], [(1, .box [.clo 24 [] []]), (0, .box [.sl tGb, .sl tGb, .sl .str, .sl tTh])], 2⟩
def x_check_isForm_76_0_0_0 : StS := ⟨[(4, .undef)], [(1, .box [.clo 24 [] []]), (0, .box [.sl tGb, .sl tGb, .sl .str, .sl tTh])], 2⟩
def x_check_isForm_76_0_0_1 : StS := ⟨[(4, .int .i64)], [(1, .box [.clo 24 [] []]), (0, .box [.sl tGb, .sl tGb, .sl .str, .sl tTh])], 2⟩
abbrev X_check_isForm_76_0_0 := ((List Gb) × Int × Int × (List Gb) × (List Gb) × (List ByteArray) × (List Th))
def fl_check_isForm_76_0_0 (d : StD s_check_isForm_76_0_0) : X_check_isForm_76_0_0 := (d.1.1, d.1.2.2.1, d.1.2.2.2.1, d.2.2.1.1, d.2.2.1.2.1, d.2.2.1.2.2.1, d.2.2.1.2.2.2.1)
def un_check_isForm_76_0_0 (x : X_check_isForm_76_0_0) : StD s_check_isForm_76_0_0 := ((x.1, ((), ((), ())), x.2.1, x.2.2.1, ()), ((((), ()), ()), (x.2.2.2.1, x.2.2.2.2.1, x.2.2.2.2.2.1, x.2.2.2.2.2.2, ()), ()))
abbrev X_check_isForm_76_0_0_0 := ((List Gb) × (List Gb) × (List ByteArray) × (List Th))
def fl_check_isForm_76_0_0_0 (d : StD x_check_isForm_76_0_0_0) : X_check_isForm_76_0_0_0 := (d.2.2.1.1, d.2.2.1.2.1, d.2.2.1.2.2.1, d.2.2.1.2.2.2.1)
def un_check_isForm_76_0_0_0 (x : X_check_isForm_76_0_0_0) : StD x_check_isForm_76_0_0_0 := (((), ()), ((((), ()), ()), (x.1, x.2.1, x.2.2.1, x.2.2.2, ()), ()))
abbrev X_check_isForm_76_0_0_1 := (Int × (List Gb) × (List Gb) × (List ByteArray) × (List Th))
def fl_check_isForm_76_0_0_1 (d : StD x_check_isForm_76_0_0_1) : X_check_isForm_76_0_0_1 := (d.1.1, d.2.2.1.1, d.2.2.1.2.1, d.2.2.1.2.2.1, d.2.2.1.2.2.2.1)
def un_check_isForm_76_0_0_1 (x : X_check_isForm_76_0_0_1) : StD x_check_isForm_76_0_0_1 := ((x.1, ()), ((((), ()), ()), (x.2.1, x.2.2.1, x.2.2.2.1, x.2.2.2.2, ()), ()))
noncomputable def st_check_isForm_76_0_0 (s0 : (List Gb)) (s7 : Int) (s8 : Int) (b0 : (List Gb)) (b0_1 : (List Gb)) (b0_2 : (List ByteArray)) (b0_3 : (List Th)) : Option (((List Gb) × Int × Int × (List Gb) × (List Gb) × (List ByteArray) × (List Th)) ⊕ (((List Gb) × (List Gb) × (List ByteArray) × (List Th)) ⊕ (Int × (List Gb) × (List Gb) × (List ByteArray) × (List Th)))) :=
  bif decide (s8 < s7) then
 bif decide (0 ≤ s8) then
 optC s0[s8.toNat]? none fun d12 ↦
 optC (G_check_isName (d12.1, ())) none fun d13 ↦
 bif d13 then
 optC (G_num_Fits ([d12.2], ())) none fun d14 ↦
 bif !d14 then some (Sum.inr (Sum.inr (s8, b0, b0_1, b0_2, b0_3))) else some (Sum.inl (s0, s7, Go.IntKind.i64.wrap (s8 + 1), b0, b0_1, b0_2, b0_3))
 else some (Sum.inr (Sum.inr (s8, b0, b0_1, b0_2, b0_3)))
 else none
 else some (Sum.inr (Sum.inl (b0, b0_1, b0_2, b0_3)))
noncomputable def sx_check_isForm_76_0_0 (x : X_check_isForm_76_0_0) : Option (X_check_isForm_76_0_0 ⊕ (X_check_isForm_76_0_0_0 ⊕ X_check_isForm_76_0_0_1)) := st_check_isForm_76_0_0 x.1 x.2.1 x.2.2.1 x.2.2.2.1 x.2.2.2.2.1 x.2.2.2.2.2.1 x.2.2.2.2.2.2
theorem rn_check_isForm_76_0_0 (x : X_check_isForm_76_0_0) : rdX (cxU sp_check_isForm [] 40 1048576) keeps 8 ⟨76, 19, keeps 76, 2⟩ 0 (bodyX 76 0) 2 kp_check_isForm_76_0 (sT s_check_isForm_76_0_0 (un_check_isForm_76_0_0 x)) (sH s_check_isForm_76_0_0 (un_check_isForm_76_0_0 x)) (rdO (fun T h => (rdS s_check_isForm_76_0_0 T h).map fl_check_isForm_76_0_0) (getOr (getE 2 x_check_isForm_76_0_0_0 fl_check_isForm_76_0_0_0) (getE 1 x_check_isForm_76_0_0_1 fl_check_isForm_76_0_0_1))) = sx_check_isForm_76_0_0 x := by kernel_rfl
noncomputable def L_check_isForm_76_0_0 (x : X_check_isForm_76_0_0) : Option (X_check_isForm_76_0_0_0 ⊕ X_check_isForm_76_0_0_1) := iterO (fun x => st_check_isForm_76_0_0 x.1 x.2.1 x.2.2.1 x.2.2.2.1 x.2.2.2.2.1 x.2.2.2.2.2.1 x.2.2.2.2.2.2) FUEL x
noncomputable def q_check_isForm_76_0 : Nat → Tm → Prog (Nat × Tm) := (varP 2 (fun T h => (rdS s_check_isForm_76_0_0 T h).map fl_check_isForm_76_0_0) L_check_isForm_76_0_0 (fun y => .alt y (altE 2 x_check_isForm_76_0_0_0 un_check_isForm_76_0_0_0) (altE 1 x_check_isForm_76_0_0_1 un_check_isForm_76_0_0_1)) (fun _ _ => .fail))
noncomputable def lc_check_isForm_76_0 : Lpc := ⟨76, 0, 19, (fun base T => .norm base (kp_check_isForm_76_0 0) T (q_check_isForm_76_0 base)), by kernel_rfl, by kernel_rfl, (loopU sp_check_isForm [] 40 1048576 8 (keep := kp_check_isForm_76_0) (q := q_check_isForm_76_0) (by kernel_rfl) (varX_ok (s := s_check_isForm_76_0_0) (un := un_check_isForm_76_0_0) (by rfl) (fun _ => rfl) (getOr_ok (getE_ok (s := x_check_isForm_76_0_0_0) (un := un_check_isForm_76_0_0_0) (by rfl) (fun _ => rfl)) (getE_ok (s := x_check_isForm_76_0_0_1) (un := un_check_isForm_76_0_0_1) (by rfl) (fun _ => rfl))) (step := sx_check_isForm_76_0_0) rn_check_isForm_76_0_0 (fun _ _ e => ⟨_, e⟩) (altOr_ok (altE_ok 2 x_check_isForm_76_0_0_0 un_check_isForm_76_0_0_0) (altE_ok 1 x_check_isForm_76_0_0_1 un_check_isForm_76_0_0_1)) (VarOk.fail _ _)))⟩
noncomputable abbrev cx_check_isForm_68_0 := cxU sp_check_isForm [lc_check_isForm_76_0] 40 1048576
def s_check_isForm_68_0_0 : StS := ⟨[(0, .sl tGb), (1, .clo 60 [] [.ptr 2 0]), (7, .int .i64), (8, .int .i64)], [(2, .box [.clo 28 [] []]), (1, .box [.clo 24 [] []]), (0, .box [.sl tGb, .sl tGb, .sl .str, .sl tTh])], 3⟩
def x_check_isForm_68_0_0_0 : StS := ⟨[(4, .undef)], [(2, .box [.clo 28 [] []]), (1, .box [.clo 24 [] []]), (0, .box [.sl tGb, .sl tGb, .sl .str, .sl tTh])], 3⟩
def x_check_isForm_68_0_0_1 : StS := ⟨[(4, .int .i64)], [(2, .box [.clo 28 [] []]), (1, .box [.clo 24 [] []]), (0, .box [.sl tGb, .sl tGb, .sl .str, .sl tTh])], 3⟩
abbrev X_check_isForm_68_0_0 := ((List Gb) × Int × Int × (List Gb) × (List Gb) × (List ByteArray) × (List Th))
def fl_check_isForm_68_0_0 (d : StD s_check_isForm_68_0_0) : X_check_isForm_68_0_0 := (d.1.1, d.1.2.2.1, d.1.2.2.2.1, d.2.2.2.1.1, d.2.2.2.1.2.1, d.2.2.2.1.2.2.1, d.2.2.2.1.2.2.2.1)
def un_check_isForm_68_0_0 (x : X_check_isForm_68_0_0) : StD s_check_isForm_68_0_0 := ((x.1, ((), ((), ())), x.2.1, x.2.2.1, ()), ((((), ()), ()), (((), ()), ()), (x.2.2.2.1, x.2.2.2.2.1, x.2.2.2.2.2.1, x.2.2.2.2.2.2, ()), ()))
abbrev X_check_isForm_68_0_0_0 := ((List Gb) × (List Gb) × (List ByteArray) × (List Th))
def fl_check_isForm_68_0_0_0 (d : StD x_check_isForm_68_0_0_0) : X_check_isForm_68_0_0_0 := (d.2.2.2.1.1, d.2.2.2.1.2.1, d.2.2.2.1.2.2.1, d.2.2.2.1.2.2.2.1)
def un_check_isForm_68_0_0_0 (x : X_check_isForm_68_0_0_0) : StD x_check_isForm_68_0_0_0 := (((), ()), ((((), ()), ()), (((), ()), ()), (x.1, x.2.1, x.2.2.1, x.2.2.2, ()), ()))
abbrev X_check_isForm_68_0_0_1 := (Int × (List Gb) × (List Gb) × (List ByteArray) × (List Th))
def fl_check_isForm_68_0_0_1 (d : StD x_check_isForm_68_0_0_1) : X_check_isForm_68_0_0_1 := (d.1.1, d.2.2.2.1.1, d.2.2.2.1.2.1, d.2.2.2.1.2.2.1, d.2.2.2.1.2.2.2.1)
def un_check_isForm_68_0_0_1 (x : X_check_isForm_68_0_0_1) : StD x_check_isForm_68_0_0_1 := ((x.1, ()), ((((), ()), ()), (((), ()), ()), (x.2.1, x.2.2.1, x.2.2.2.1, x.2.2.2.2, ()), ()))
noncomputable def st_check_isForm_68_0_0 (s0 : (List Gb)) (s7 : Int) (s8 : Int) (b0 : (List Gb)) (b0_1 : (List Gb)) (b0_2 : (List ByteArray)) (b0_3 : (List Th)) : Option (((List Gb) × Int × Int × (List Gb) × (List Gb) × (List ByteArray) × (List Th)) ⊕ (((List Gb) × (List Gb) × (List ByteArray) × (List Th)) ⊕ (Int × (List Gb) × (List Gb) × (List ByteArray) × (List Th)))) :=
  bif decide (s8 < s7) then
 bif decide (0 ≤ s8) then
 optC s0[s8.toNat]? none fun d12 ↦
 optC (G_check_isName (d12.1, ())) none fun d13 ↦
 bif d13 then
 optC (G_check_isIn (d12.2, 1, 16, ())) none fun d14 ↦
 bif !d14 then some (Sum.inr (Sum.inr (s8, b0, b0_1, b0_2, b0_3))) else some (Sum.inl (s0, s7, Go.IntKind.i64.wrap (s8 + 1), b0, b0_1, b0_2, b0_3))
 else some (Sum.inr (Sum.inr (s8, b0, b0_1, b0_2, b0_3)))
 else none
 else some (Sum.inr (Sum.inl (b0, b0_1, b0_2, b0_3)))
noncomputable def sx_check_isForm_68_0_0 (x : X_check_isForm_68_0_0) : Option (X_check_isForm_68_0_0 ⊕ (X_check_isForm_68_0_0_0 ⊕ X_check_isForm_68_0_0_1)) := st_check_isForm_68_0_0 x.1 x.2.1 x.2.2.1 x.2.2.2.1 x.2.2.2.2.1 x.2.2.2.2.2.1 x.2.2.2.2.2.2
theorem rn_check_isForm_68_0_0 (x : X_check_isForm_68_0_0) : rdX cx_check_isForm_68_0 keeps 8 ⟨68, 19, keeps 68, 3⟩ 0 (bodyX 68 0) 3 kp_check_isForm_68_0 (sT s_check_isForm_68_0_0 (un_check_isForm_68_0_0 x)) (sH s_check_isForm_68_0_0 (un_check_isForm_68_0_0 x)) (rdO (fun T h => (rdS s_check_isForm_68_0_0 T h).map fl_check_isForm_68_0_0) (getOr (getE 2 x_check_isForm_68_0_0_0 fl_check_isForm_68_0_0_0) (getE 1 x_check_isForm_68_0_0_1 fl_check_isForm_68_0_0_1))) = sx_check_isForm_68_0_0 x := by kernel_rfl
noncomputable def L_check_isForm_68_0_0 (x : X_check_isForm_68_0_0) : Option (X_check_isForm_68_0_0_0 ⊕ X_check_isForm_68_0_0_1) := iterO (fun x => st_check_isForm_68_0_0 x.1 x.2.1 x.2.2.1 x.2.2.2.1 x.2.2.2.2.1 x.2.2.2.2.2.1 x.2.2.2.2.2.2) FUEL x
noncomputable def q_check_isForm_68_0 : Nat → Tm → Prog (Nat × Tm) := (varP 3 (fun T h => (rdS s_check_isForm_68_0_0 T h).map fl_check_isForm_68_0_0) L_check_isForm_68_0_0 (fun y => .alt y (altE 2 x_check_isForm_68_0_0_0 un_check_isForm_68_0_0_0) (altE 1 x_check_isForm_68_0_0_1 un_check_isForm_68_0_0_1)) (fun _ _ => .fail))
noncomputable def lc_check_isForm_68_0 : Lpc := ⟨68, 0, 19, (fun base T => .norm base (kp_check_isForm_68_0 0) T (q_check_isForm_68_0 base)), by kernel_rfl, by kernel_rfl, (loopU sp_check_isForm [lc_check_isForm_76_0] 40 1048576 8 (keep := kp_check_isForm_68_0) (q := q_check_isForm_68_0) (by kernel_rfl) (varX_ok (s := s_check_isForm_68_0_0) (un := un_check_isForm_68_0_0) (by rfl) (fun _ => rfl) (getOr_ok (getE_ok (s := x_check_isForm_68_0_0_0) (un := un_check_isForm_68_0_0_0) (by rfl) (fun _ => rfl)) (getE_ok (s := x_check_isForm_68_0_0_1) (un := un_check_isForm_68_0_0_1) (by rfl) (fun _ => rfl))) (step := sx_check_isForm_68_0_0) rn_check_isForm_68_0_0 (fun _ _ e => ⟨_, e⟩) (altOr_ok (altE_ok 2 x_check_isForm_68_0_0_0 un_check_isForm_68_0_0_0) (altE_ok 1 x_check_isForm_68_0_0_1 un_check_isForm_68_0_0_1)) (VarOk.fail _ _)))⟩
noncomputable abbrev cx_check_isForm_64_0 := cxU sp_check_isForm [lc_check_isForm_76_0, lc_check_isForm_68_0] 40 1048576
def s_check_isForm_64_0_0 : StS := ⟨[(0, .sl (.mu 2)), (1, .clo 37 [] [.ptr 6 0]), (7, .int .i64), (8, .int .i64)], [(6, .box [.clo 31 [] []]), (5, .box [.str, .sl .str, .sl (.mu 2)]), (4, .box [.str, .sl .str, .sl (.mu 2)]), (3, .box [.clo 30 [] []]), (2, .box [.clo 28 [] []]), (1, .box [.clo 24 [] []]), (0, .box [.sl tGb, .sl tGb, .sl .str, .sl tTh])], 7⟩
def x_check_isForm_64_0_0_0 : StS := ⟨[(4, .undef)], [(6, .box [.clo 31 [] []]), (5, .box [.str, .sl .str, .sl (.mu 2)]), (4, .box [.str, .sl .str, .sl (.mu 2)]), (3, .box [.clo 30 [] []]), (2, .box [.clo 28 [] []]), (1, .box [.clo 24 [] []]), (0, .box [.sl tGb, .sl tGb, .sl .str, .sl tTh])], 7⟩
def x_check_isForm_64_0_0_1 : StS := ⟨[(4, .int .i64)], [(6, .box [.clo 31 [] []]), (5, .box [.str, .sl .str, .sl (.mu 2)]), (4, .box [.str, .sl .str, .sl (.mu 2)]), (3, .box [.clo 30 [] []]), (2, .box [.clo 28 [] []]), (1, .box [.clo 24 [] []]), (0, .box [.sl tGb, .sl tGb, .sl .str, .sl tTh])], 7⟩
abbrev X_check_isForm_64_0_0 := ((List (RT.C 2)) × Int × Int × ByteArray × (List ByteArray) × (List (RT.C 2)) × ByteArray × (List ByteArray) × (List (RT.C 2)) × (List Gb) × (List Gb) × (List ByteArray) × (List Th))
def fl_check_isForm_64_0_0 (d : StD s_check_isForm_64_0_0) : X_check_isForm_64_0_0 := (d.1.1, d.1.2.2.1, d.1.2.2.2.1, d.2.2.1.1, d.2.2.1.2.1, d.2.2.1.2.2.1, d.2.2.2.1.1, d.2.2.2.1.2.1, d.2.2.2.1.2.2.1, d.2.2.2.2.2.2.2.1.1, d.2.2.2.2.2.2.2.1.2.1, d.2.2.2.2.2.2.2.1.2.2.1, d.2.2.2.2.2.2.2.1.2.2.2.1)
def un_check_isForm_64_0_0 (x : X_check_isForm_64_0_0) : StD s_check_isForm_64_0_0 := ((x.1, ((), ((), ())), x.2.1, x.2.2.1, ()), ((((), ()), ()), (x.2.2.2.1, x.2.2.2.2.1, x.2.2.2.2.2.1, ()), (x.2.2.2.2.2.2.1, x.2.2.2.2.2.2.2.1, x.2.2.2.2.2.2.2.2.1, ()), (((), ()), ()), (((), ()), ()), (((), ()), ()), (x.2.2.2.2.2.2.2.2.2.1, x.2.2.2.2.2.2.2.2.2.2.1, x.2.2.2.2.2.2.2.2.2.2.2.1, x.2.2.2.2.2.2.2.2.2.2.2.2, ()), ()))
abbrev X_check_isForm_64_0_0_0 := (ByteArray × (List ByteArray) × (List (RT.C 2)) × ByteArray × (List ByteArray) × (List (RT.C 2)) × (List Gb) × (List Gb) × (List ByteArray) × (List Th))
def fl_check_isForm_64_0_0_0 (d : StD x_check_isForm_64_0_0_0) : X_check_isForm_64_0_0_0 := (d.2.2.1.1, d.2.2.1.2.1, d.2.2.1.2.2.1, d.2.2.2.1.1, d.2.2.2.1.2.1, d.2.2.2.1.2.2.1, d.2.2.2.2.2.2.2.1.1, d.2.2.2.2.2.2.2.1.2.1, d.2.2.2.2.2.2.2.1.2.2.1, d.2.2.2.2.2.2.2.1.2.2.2.1)
def un_check_isForm_64_0_0_0 (x : X_check_isForm_64_0_0_0) : StD x_check_isForm_64_0_0_0 := (((), ()), ((((), ()), ()), (x.1, x.2.1, x.2.2.1, ()), (x.2.2.2.1, x.2.2.2.2.1, x.2.2.2.2.2.1, ()), (((), ()), ()), (((), ()), ()), (((), ()), ()), (x.2.2.2.2.2.2.1, x.2.2.2.2.2.2.2.1, x.2.2.2.2.2.2.2.2.1, x.2.2.2.2.2.2.2.2.2, ()), ()))
abbrev X_check_isForm_64_0_0_1 := (Int × ByteArray × (List ByteArray) × (List (RT.C 2)) × ByteArray × (List ByteArray) × (List (RT.C 2)) × (List Gb) × (List Gb) × (List ByteArray) × (List Th))
def fl_check_isForm_64_0_0_1 (d : StD x_check_isForm_64_0_0_1) : X_check_isForm_64_0_0_1 := (d.1.1, d.2.2.1.1, d.2.2.1.2.1, d.2.2.1.2.2.1, d.2.2.2.1.1, d.2.2.2.1.2.1, d.2.2.2.1.2.2.1, d.2.2.2.2.2.2.2.1.1, d.2.2.2.2.2.2.2.1.2.1, d.2.2.2.2.2.2.2.1.2.2.1, d.2.2.2.2.2.2.2.1.2.2.2.1)
def un_check_isForm_64_0_0_1 (x : X_check_isForm_64_0_0_1) : StD x_check_isForm_64_0_0_1 := ((x.1, ()), ((((), ()), ()), (x.2.1, x.2.2.1, x.2.2.2.1, ()), (x.2.2.2.2.1, x.2.2.2.2.2.1, x.2.2.2.2.2.2.1, ()), (((), ()), ()), (((), ()), ()), (((), ()), ()), (x.2.2.2.2.2.2.2.1, x.2.2.2.2.2.2.2.2.1, x.2.2.2.2.2.2.2.2.2.1, x.2.2.2.2.2.2.2.2.2.2, ()), ()))
noncomputable def st_check_isForm_64_0_0 (s0 : (List (RT.C 2))) (s7 : Int) (s8 : Int) (b5 : ByteArray) (b5_1 : (List ByteArray)) (b5_2 : (List (RT.C 2))) (b4 : ByteArray) (b4_1 : (List ByteArray)) (b4_2 : (List (RT.C 2))) (b0 : (List Gb)) (b0_1 : (List Gb)) (b0_2 : (List ByteArray)) (b0_3 : (List Th)) : Option (((List (RT.C 2)) × Int × Int × ByteArray × (List ByteArray) × (List (RT.C 2)) × ByteArray × (List ByteArray) × (List (RT.C 2)) × (List Gb) × (List Gb) × (List ByteArray) × (List Th)) ⊕ ((ByteArray × (List ByteArray) × (List (RT.C 2)) × ByteArray × (List ByteArray) × (List (RT.C 2)) × (List Gb) × (List Gb) × (List ByteArray) × (List Th)) ⊕ (Int × ByteArray × (List ByteArray) × (List (RT.C 2)) × ByteArray × (List ByteArray) × (List (RT.C 2)) × (List Gb) × (List Gb) × (List ByteArray) × (List Th)))) :=
  bif decide (s8 < s7) then
 bif decide (0 ≤ s8) then
 optC s0[s8.toNat]? none fun d18 ↦
 optC (G_check_isStmt (uT2 d18, ())) none fun d19 ↦
 bif !d19 then some (Sum.inr (Sum.inr (s8, b5, b5_1, b5_2, b4, b4_1, b4_2, b0, b0_1, b0_2, b0_3)))
 else some (Sum.inl (s0, s7, Go.IntKind.i64.wrap (s8 + 1), b5, b5_1, b5_2, b4, b4_1, b4_2, b0, b0_1, b0_2, b0_3))
 else none
 else some (Sum.inr (Sum.inl (b5, b5_1, b5_2, b4, b4_1, b4_2, b0, b0_1, b0_2, b0_3)))
noncomputable def sx_check_isForm_64_0_0 (x : X_check_isForm_64_0_0) : Option (X_check_isForm_64_0_0 ⊕ (X_check_isForm_64_0_0_0 ⊕ X_check_isForm_64_0_0_1)) := st_check_isForm_64_0_0 x.1 x.2.1 x.2.2.1 x.2.2.2.1 x.2.2.2.2.1 x.2.2.2.2.2.1 x.2.2.2.2.2.2.1 x.2.2.2.2.2.2.2.1 x.2.2.2.2.2.2.2.2.1 x.2.2.2.2.2.2.2.2.2.1 x.2.2.2.2.2.2.2.2.2.2.1 x.2.2.2.2.2.2.2.2.2.2.2.1 x.2.2.2.2.2.2.2.2.2.2.2.2
theorem rn_check_isForm_64_0_0 (x : X_check_isForm_64_0_0) : rdX cx_check_isForm_64_0 keeps 8 ⟨64, 19, keeps 64, 7⟩ 0 (bodyX 64 0) 7 kp_check_isForm_64_0 (sT s_check_isForm_64_0_0 (un_check_isForm_64_0_0 x)) (sH s_check_isForm_64_0_0 (un_check_isForm_64_0_0 x)) (rdO (fun T h => (rdS s_check_isForm_64_0_0 T h).map fl_check_isForm_64_0_0) (getOr (getE 2 x_check_isForm_64_0_0_0 fl_check_isForm_64_0_0_0) (getE 1 x_check_isForm_64_0_0_1 fl_check_isForm_64_0_0_1))) = sx_check_isForm_64_0_0 x := by kernel_rfl
noncomputable def L_check_isForm_64_0_0 (x : X_check_isForm_64_0_0) : Option (X_check_isForm_64_0_0_0 ⊕ X_check_isForm_64_0_0_1) := iterO (fun x => st_check_isForm_64_0_0 x.1 x.2.1 x.2.2.1 x.2.2.2.1 x.2.2.2.2.1 x.2.2.2.2.2.1 x.2.2.2.2.2.2.1 x.2.2.2.2.2.2.2.1 x.2.2.2.2.2.2.2.2.1 x.2.2.2.2.2.2.2.2.2.1 x.2.2.2.2.2.2.2.2.2.2.1 x.2.2.2.2.2.2.2.2.2.2.2.1 x.2.2.2.2.2.2.2.2.2.2.2.2) FUEL x
noncomputable def q_check_isForm_64_0 : Nat → Tm → Prog (Nat × Tm) := (varP 7 (fun T h => (rdS s_check_isForm_64_0_0 T h).map fl_check_isForm_64_0_0) L_check_isForm_64_0_0 (fun y => .alt y (altE 2 x_check_isForm_64_0_0_0 un_check_isForm_64_0_0_0) (altE 1 x_check_isForm_64_0_0_1 un_check_isForm_64_0_0_1)) (fun _ _ => .fail))
noncomputable def lc_check_isForm_64_0 : Lpc := ⟨64, 0, 19, (fun base T => .norm base (kp_check_isForm_64_0 0) T (q_check_isForm_64_0 base)), by kernel_rfl, by kernel_rfl, (loopU sp_check_isForm [lc_check_isForm_76_0, lc_check_isForm_68_0] 40 1048576 8 (keep := kp_check_isForm_64_0) (q := q_check_isForm_64_0) (by kernel_rfl) (varX_ok (s := s_check_isForm_64_0_0) (un := un_check_isForm_64_0_0) (by rfl) (fun _ => rfl) (getOr_ok (getE_ok (s := x_check_isForm_64_0_0_0) (un := un_check_isForm_64_0_0_0) (by rfl) (fun _ => rfl)) (getE_ok (s := x_check_isForm_64_0_0_1) (un := un_check_isForm_64_0_0_1) (by rfl) (fun _ => rfl))) (step := sx_check_isForm_64_0_0) rn_check_isForm_64_0_0 (fun _ _ e => ⟨_, e⟩) (altOr_ok (altE_ok 2 x_check_isForm_64_0_0_0 un_check_isForm_64_0_0_0) (altE_ok 1 x_check_isForm_64_0_0_1 un_check_isForm_64_0_0_1)) (VarOk.fail _ _)))⟩
noncomputable abbrev cx_check_isForm_63_0 := cxU sp_check_isForm [lc_check_isForm_76_0, lc_check_isForm_68_0, lc_check_isForm_64_0] 40 1048576
def s_check_isForm_63_0_0 : StS := ⟨[(0, .sl tTh), (1, .clo 35 [] [.ptr 3 0]), (7, .int .i64), (8, .int .i64)], [(3, .box [.clo 30 [] []]), (2, .box [.clo 28 [] []]), (1, .box [.clo 24 [] []]), (0, .box [.sl tGb, .sl tGb, .sl .str, .sl tTh])], 4⟩
def x_check_isForm_63_0_0_0 : StS := ⟨[(4, .undef)], [(3, .box [.clo 30 [] []]), (2, .box [.clo 28 [] []]), (1, .box [.clo 24 [] []]), (0, .box [.sl tGb, .sl tGb, .sl .str, .sl tTh])], 4⟩
def x_check_isForm_63_0_0_1 : StS := ⟨[(4, .int .i64)], [(3, .box [.clo 30 [] []]), (2, .box [.clo 28 [] []]), (1, .box [.clo 24 [] []]), (0, .box [.sl tGb, .sl tGb, .sl .str, .sl tTh])], 4⟩
abbrev X_check_isForm_63_0_0 := ((List Th) × Int × Int × (List Gb) × (List Gb) × (List ByteArray) × (List Th))
def fl_check_isForm_63_0_0 (d : StD s_check_isForm_63_0_0) : X_check_isForm_63_0_0 := (d.1.1, d.1.2.2.1, d.1.2.2.2.1, d.2.2.2.2.1.1, d.2.2.2.2.1.2.1, d.2.2.2.2.1.2.2.1, d.2.2.2.2.1.2.2.2.1)
def un_check_isForm_63_0_0 (x : X_check_isForm_63_0_0) : StD s_check_isForm_63_0_0 := ((x.1, ((), ((), ())), x.2.1, x.2.2.1, ()), ((((), ()), ()), (((), ()), ()), (((), ()), ()), (x.2.2.2.1, x.2.2.2.2.1, x.2.2.2.2.2.1, x.2.2.2.2.2.2, ()), ()))
abbrev X_check_isForm_63_0_0_0 := ((List Gb) × (List Gb) × (List ByteArray) × (List Th))
def fl_check_isForm_63_0_0_0 (d : StD x_check_isForm_63_0_0_0) : X_check_isForm_63_0_0_0 := (d.2.2.2.2.1.1, d.2.2.2.2.1.2.1, d.2.2.2.2.1.2.2.1, d.2.2.2.2.1.2.2.2.1)
def un_check_isForm_63_0_0_0 (x : X_check_isForm_63_0_0_0) : StD x_check_isForm_63_0_0_0 := (((), ()), ((((), ()), ()), (((), ()), ()), (((), ()), ()), (x.1, x.2.1, x.2.2.1, x.2.2.2, ()), ()))
abbrev X_check_isForm_63_0_0_1 := (Int × (List Gb) × (List Gb) × (List ByteArray) × (List Th))
def fl_check_isForm_63_0_0_1 (d : StD x_check_isForm_63_0_0_1) : X_check_isForm_63_0_0_1 := (d.1.1, d.2.2.2.2.1.1, d.2.2.2.2.1.2.1, d.2.2.2.2.1.2.2.1, d.2.2.2.2.1.2.2.2.1)
def un_check_isForm_63_0_0_1 (x : X_check_isForm_63_0_0_1) : StD x_check_isForm_63_0_0_1 := ((x.1, ()), ((((), ()), ()), (((), ()), ()), (((), ()), ()), (x.2.1, x.2.2.1, x.2.2.2.1, x.2.2.2.2, ()), ()))
noncomputable def st_check_isForm_63_0_0 (s0 : (List Th)) (s7 : Int) (s8 : Int) (b0 : (List Gb)) (b0_1 : (List Gb)) (b0_2 : (List ByteArray)) (b0_3 : (List Th)) : Option (((List Th) × Int × Int × (List Gb) × (List Gb) × (List ByteArray) × (List Th)) ⊕ (((List Gb) × (List Gb) × (List ByteArray) × (List Th)) ⊕ (Int × (List Gb) × (List Gb) × (List ByteArray) × (List Th)))) :=
  bif decide (s8 < s7) then
 bif decide (0 ≤ s8) then
 optC s0[s8.toNat]? none fun d12 ↦
 optC (G_check_isName (d12.1, ())) none fun d13 ↦
 bif d13 then
 optC (G_check_areNames (d12.2.1, ())) none fun d14 ↦
 bif d14 then
 optC (L_check_isForm_64_0_0 (d12.2.2, (↑(List.length d12.2.2) : Int), 0, d12.1, d12.2.1, d12.2.2, d12.1, d12.2.1, d12.2.2, b0, b0_1, b0_2, b0_3))
 none fun d15 ↦
 Sum.elim
 (fun e16 ↦
 some
 (Sum.inl
 (s0, s7, Go.IntKind.i64.wrap (s8 + 1), e16.2.2.2.2.2.2.1, e16.2.2.2.2.2.2.2.1, e16.2.2.2.2.2.2.2.2.1,
 e16.2.2.2.2.2.2.2.2.2)))
 (fun e16 ↦
 bif !!decide (e16.1 ≥ 0) then
 some
 (Sum.inr
 (Sum.inr
 (s8, e16.2.2.2.2.2.2.2.1, e16.2.2.2.2.2.2.2.2.1, e16.2.2.2.2.2.2.2.2.2.1,
 e16.2.2.2.2.2.2.2.2.2.2)))
 else
 some
 (Sum.inl
 (s0, s7, Go.IntKind.i64.wrap (s8 + 1), e16.2.2.2.2.2.2.2.1, e16.2.2.2.2.2.2.2.2.1, e16.2.2.2.2.2.2.2.2.2.1,
 e16.2.2.2.2.2.2.2.2.2.2)))
 d15
 else some (Sum.inr (Sum.inr (s8, b0, b0_1, b0_2, b0_3)))
 else some (Sum.inr (Sum.inr (s8, b0, b0_1, b0_2, b0_3)))
 else none
 else some (Sum.inr (Sum.inl (b0, b0_1, b0_2, b0_3)))
noncomputable def sx_check_isForm_63_0_0 (x : X_check_isForm_63_0_0) : Option (X_check_isForm_63_0_0 ⊕ (X_check_isForm_63_0_0_0 ⊕ X_check_isForm_63_0_0_1)) := st_check_isForm_63_0_0 x.1 x.2.1 x.2.2.1 x.2.2.2.1 x.2.2.2.2.1 x.2.2.2.2.2.1 x.2.2.2.2.2.2
theorem rn_check_isForm_63_0_0 (x : X_check_isForm_63_0_0) : rdX cx_check_isForm_63_0 keeps 8 ⟨63, 19, keeps 63, 4⟩ 0 (bodyX 63 0) 4 kp_check_isForm_63_0 (sT s_check_isForm_63_0_0 (un_check_isForm_63_0_0 x)) (sH s_check_isForm_63_0_0 (un_check_isForm_63_0_0 x)) (rdO (fun T h => (rdS s_check_isForm_63_0_0 T h).map fl_check_isForm_63_0_0) (getOr (getE 2 x_check_isForm_63_0_0_0 fl_check_isForm_63_0_0_0) (getE 1 x_check_isForm_63_0_0_1 fl_check_isForm_63_0_0_1))) = sx_check_isForm_63_0_0 x := by kernel_rfl
noncomputable def L_check_isForm_63_0_0 (x : X_check_isForm_63_0_0) : Option (X_check_isForm_63_0_0_0 ⊕ X_check_isForm_63_0_0_1) := iterO (fun x => st_check_isForm_63_0_0 x.1 x.2.1 x.2.2.1 x.2.2.2.1 x.2.2.2.2.1 x.2.2.2.2.2.1 x.2.2.2.2.2.2) FUEL x
noncomputable def q_check_isForm_63_0 : Nat → Tm → Prog (Nat × Tm) := (varP 4 (fun T h => (rdS s_check_isForm_63_0_0 T h).map fl_check_isForm_63_0_0) L_check_isForm_63_0_0 (fun y => .alt y (altE 2 x_check_isForm_63_0_0_0 un_check_isForm_63_0_0_0) (altE 1 x_check_isForm_63_0_0_1 un_check_isForm_63_0_0_1)) (fun _ _ => .fail))
noncomputable def lc_check_isForm_63_0 : Lpc := ⟨63, 0, 19, (fun base T => .norm base (kp_check_isForm_63_0 0) T (q_check_isForm_63_0 base)), by kernel_rfl, by kernel_rfl, (loopU sp_check_isForm [lc_check_isForm_76_0, lc_check_isForm_68_0, lc_check_isForm_64_0] 40 1048576 8 (keep := kp_check_isForm_63_0) (q := q_check_isForm_63_0) (by kernel_rfl) (varX_ok (s := s_check_isForm_63_0_0) (un := un_check_isForm_63_0_0) (by rfl) (fun _ => rfl) (getOr_ok (getE_ok (s := x_check_isForm_63_0_0_0) (un := un_check_isForm_63_0_0_0) (by rfl) (fun _ => rfl)) (getE_ok (s := x_check_isForm_63_0_0_1) (un := un_check_isForm_63_0_0_1) (by rfl) (fun _ => rfl))) (step := sx_check_isForm_63_0_0) rn_check_isForm_63_0_0 (fun _ _ e => ⟨_, e⟩) (altOr_ok (altE_ok 2 x_check_isForm_63_0_0_0 un_check_isForm_63_0_0_0) (altE_ok 1 x_check_isForm_63_0_0_1 un_check_isForm_63_0_0_1)) (VarOk.fail _ _)))⟩
noncomputable def g_check_isForm (a0 : Pg) : Option Bool :=
  bif decide ((↑(List.length a0.2.2.2) : Int) > 0) then
 optC (G_check_areNames (a0.2.2.1, ())) none fun d6 ↦
 bif d6 then
 optC (L_check_isForm_76_0_0 (a0.1, (↑(List.length a0.1) : Int), 0, a0)) none fun d7 ↦
 Sum.elim
 (fun e8 ↦
 optC (L_check_isForm_68_0_0 (e8.2.1, (↑e8.2.1.length : Int), 0, e8)) none fun d9 ↦
 Sum.elim
 (fun e10 ↦
 optC (L_check_isForm_63_0_0 (e10.2.2.2, (↑e10.2.2.2.length : Int), 0, e10)) none fun d11 ↦
 Sum.elim (fun e12 ↦ some !decide (-1 ≥ 0)) (fun e12 ↦ some !decide (e12.1 ≥ 0)) d11)
 (fun e10 ↦
 bif !decide (e10.1 ≥ 0) then
 optC (L_check_isForm_63_0_0 (e10.2.2.2.2, (↑e10.2.2.2.2.length : Int), 0, e10.2)) none fun d11 ↦
 Sum.elim (fun e12 ↦ some !decide (-1 ≥ 0)) (fun e12 ↦ some !decide (e12.1 ≥ 0)) d11
 else some false)
 d9)
 (fun e8 ↦
 bif !decide (e8.1 ≥ 0) then
 optC (L_check_isForm_68_0_0 (e8.2.2.1, (↑e8.2.2.1.length : Int), 0, e8.2)) none fun d9 ↦
 Sum.elim
 (fun e10 ↦
 optC (L_check_isForm_63_0_0 (e10.2.2.2, (↑e10.2.2.2.length : Int), 0, e10)) none fun d11 ↦
 Sum.elim (fun e12 ↦ some !decide (-1 ≥ 0)) (fun e12 ↦ some !decide (e12.1 ≥ 0)) d11)
 (fun e10 ↦
 bif !decide (e10.1 ≥ 0) then
 optC (L_check_isForm_63_0_0 (e10.2.2.2.2, (↑e10.2.2.2.2.length : Int), 0, e10.2)) none fun d11 ↦
 Sum.elim (fun e12 ↦ some !decide (-1 ≥ 0)) (fun e12 ↦ some !decide (e12.1 ≥ 0)) d11
 else some false)
 d9
 else some false)
 d7
 else some false
 else some false
theorem raw_check_isForm (a0 : Pg) : evGX (cxU sp_check_isForm [lc_check_isForm_76_0, lc_check_isForm_68_0, lc_check_isForm_64_0, lc_check_isForm_63_0] 40 1048576) keeps 8 11 ash_check_isForm (.dat .bool) ((a0, ()) : (Pg × Unit)) = g_check_isForm a0 := by kernel_rfl
noncomputable def G_check_isForm (x : (Pg × Unit)) : Option Bool := g_check_isForm x.1
noncomputable def con_check_isForm : List AV → Prog AV := conP false ash_check_isForm (.dat .bool) G_check_isForm
theorem snd_check_isForm : SoundA Tryd.prog 11 con_check_isForm := conP_sound (calU sp_check_isForm [lc_check_isForm_76_0, lc_check_isForm_68_0, lc_check_isForm_64_0, lc_check_isForm_63_0] 40 1048576 8 11) false (by rfl) (by rfl) (fun x r e => (evGX_eq _ _ _ _ _ _ _).trans ((raw_check_isForm x.1).trans e)) (.inr fun _ => rfl)
end Go.Proofs.YtmjbedjnojcmfaaDoor.Ex

namespace Go.Proofs.YtmjbedjnojcmfaaDoor.Ex
open Go.Proofs Go.Proofs.YtmjbedjnojcmfaaDoor
noncomputable def cx_slices_Clone_string : Ctx := { tab := tab, spec := fun _ => none, inl := inl, lps := fun _ _ => none, fuel := 40 }
noncomputable def con_slices_Clone_string : List AV → Prog AV := cloneP 16 .str
theorem snd_slices_Clone_string : SoundA Tryd.prog 33 con_slices_Clone_string :=
  clone_sound (cx := cx_slices_Clone_string) (cal := fun _ _ => .fail) (i := ⟨(.sl .str), 24, 9, [], false⟩) (ie := ⟨.str, 16, 0, [], false⟩) (tabOk_of tab_ok) Tryd.func33 (inl_ok 33 Tryd.f33 rfl).2 (t := 24) (tb := 4) (s0 := "slices.go:355") (s1 := "slices.go:357") (s2 := "slices.go:358") (s3 := "slices.go:362") (by kernel_rfl) (by kernel_rfl) (by kernel_rfl) rfl rfl rfl rfl
end Go.Proofs.YtmjbedjnojcmfaaDoor.Ex

namespace Go.Proofs.YtmjbedjnojcmfaaDoor.Ex
open Go.Proofs Go.Proofs.YtmjbedjnojcmfaaDoor
set_option maxRecDepth 100000
set_option maxHeartbeats 2000000
set_option linter.unusedVariables false
set_option linter.unusedSimpArgs false
def ash_slices_Index_string : List Sh := [.dat (.sl .str), .dat .str]
def kp_slices_Index_string_71_0 : Nat → List Nat := fun c => bif c.beq 0 then [0, 1, 7, 8] else [4]
noncomputable def sp_slices_Index_string : List Con := []
def s_slices_Index_string_71_0_0 : StS := ⟨[(0, .sl .str), (1, .str), (7, .int .i64), (8, .int .i64)], [], 0⟩
def x_slices_Index_string_71_0_0_0 : StS := ⟨[(4, .undef)], [], 0⟩
def x_slices_Index_string_71_0_0_1 : StS := ⟨[(4, .int .i64)], [], 0⟩
abbrev X_slices_Index_string_71_0_0 := ((List ByteArray) × ByteArray × Int × Int)
def fl_slices_Index_string_71_0_0 (d : StD s_slices_Index_string_71_0_0) : X_slices_Index_string_71_0_0 := (d.1.1, d.1.2.1, d.1.2.2.1, d.1.2.2.2.1)
def un_slices_Index_string_71_0_0 (x : X_slices_Index_string_71_0_0) : StD s_slices_Index_string_71_0_0 := ((x.1, x.2.1, x.2.2.1, x.2.2.2, ()), ())
abbrev X_slices_Index_string_71_0_0_0 := Unit
def fl_slices_Index_string_71_0_0_0 (d : StD x_slices_Index_string_71_0_0_0) : X_slices_Index_string_71_0_0_0 := ()
def un_slices_Index_string_71_0_0_0 (x : X_slices_Index_string_71_0_0_0) : StD x_slices_Index_string_71_0_0_0 := (((), ()), ())
abbrev X_slices_Index_string_71_0_0_1 := Int
def fl_slices_Index_string_71_0_0_1 (d : StD x_slices_Index_string_71_0_0_1) : X_slices_Index_string_71_0_0_1 := (d.1.1)
def un_slices_Index_string_71_0_0_1 (x : X_slices_Index_string_71_0_0_1) : StD x_slices_Index_string_71_0_0_1 := ((x, ()), ())
noncomputable def st_slices_Index_string_71_0_0 (s0 : (List ByteArray)) (s1 : ByteArray) (s7 : Int) (s8 : Int) : Option (((List ByteArray) × ByteArray × Int × Int) ⊕ (Unit ⊕ Int)) :=
  bif decide (s8 < s7) then
 bif decide (0 ≤ s8) then
 optC s0[s8.toNat]? none fun d6 ↦ bif s1.toList == ByteArray.toList d6 then some (Sum.inr (Sum.inr s8)) else some (Sum.inl (s0, s1, s7, Go.IntKind.i64.wrap (s8 + 1)))
 else none
 else some (Sum.inr (Sum.inl PUnit.unit))
noncomputable def sx_slices_Index_string_71_0_0 (x : X_slices_Index_string_71_0_0) : Option (X_slices_Index_string_71_0_0 ⊕ (X_slices_Index_string_71_0_0_0 ⊕ X_slices_Index_string_71_0_0_1)) := st_slices_Index_string_71_0_0 x.1 x.2.1 x.2.2.1 x.2.2.2
theorem rn_slices_Index_string_71_0_0 (x : X_slices_Index_string_71_0_0) : rdX (cxU sp_slices_Index_string [] 40 1048576) keeps 8 ⟨71, 19, keeps 71, 0⟩ 0 (bodyX 71 0) 0 kp_slices_Index_string_71_0 (sT s_slices_Index_string_71_0_0 (un_slices_Index_string_71_0_0 x)) (sH s_slices_Index_string_71_0_0 (un_slices_Index_string_71_0_0 x)) (rdO (fun T h => (rdS s_slices_Index_string_71_0_0 T h).map fl_slices_Index_string_71_0_0) (getOr (getE 2 x_slices_Index_string_71_0_0_0 fl_slices_Index_string_71_0_0_0) (getE 1 x_slices_Index_string_71_0_0_1 fl_slices_Index_string_71_0_0_1))) = sx_slices_Index_string_71_0_0 x := by kernel_rfl
noncomputable def L_slices_Index_string_71_0_0 (x : X_slices_Index_string_71_0_0) : Option (X_slices_Index_string_71_0_0_0 ⊕ X_slices_Index_string_71_0_0_1) := iterO (fun x => st_slices_Index_string_71_0_0 x.1 x.2.1 x.2.2.1 x.2.2.2) FUEL x
noncomputable def q_slices_Index_string_71_0 : Nat → Tm → Prog (Nat × Tm) := (varP 0 (fun T h => (rdS s_slices_Index_string_71_0_0 T h).map fl_slices_Index_string_71_0_0) L_slices_Index_string_71_0_0 (fun y => .alt y (altE 2 x_slices_Index_string_71_0_0_0 un_slices_Index_string_71_0_0_0) (altE 1 x_slices_Index_string_71_0_0_1 un_slices_Index_string_71_0_0_1)) (fun _ _ => .fail))
noncomputable def lc_slices_Index_string_71_0 : Lpc := ⟨71, 0, 19, (fun base T => .norm base (kp_slices_Index_string_71_0 0) T (q_slices_Index_string_71_0 base)), by kernel_rfl, by kernel_rfl, (loopU sp_slices_Index_string [] 40 1048576 8 (keep := kp_slices_Index_string_71_0) (q := q_slices_Index_string_71_0) (by kernel_rfl) (varX_ok (s := s_slices_Index_string_71_0_0) (un := un_slices_Index_string_71_0_0) (by rfl) (fun _ => rfl) (getOr_ok (getE_ok (s := x_slices_Index_string_71_0_0_0) (un := un_slices_Index_string_71_0_0_0) (by rfl) (fun _ => rfl)) (getE_ok (s := x_slices_Index_string_71_0_0_1) (un := un_slices_Index_string_71_0_0_1) (by rfl) (fun _ => rfl))) (step := sx_slices_Index_string_71_0_0) rn_slices_Index_string_71_0_0 (fun _ _ e => ⟨_, e⟩) (altOr_ok (altE_ok 2 x_slices_Index_string_71_0_0_0 un_slices_Index_string_71_0_0_0) (altE_ok 1 x_slices_Index_string_71_0_0_1 un_slices_Index_string_71_0_0_1)) (VarOk.fail _ _)))⟩
noncomputable def g_slices_Index_string (a0 : (List ByteArray)) (a1 : ByteArray) : Option Int :=
  optC (L_slices_Index_string_71_0_0 (a0, a1, (↑a0.length : Int), 0)) none fun d4 ↦ Sum.elim (fun e5 ↦ some (-1)) (fun e5 ↦ some e5) d4
theorem raw_slices_Index_string (a0 : (List ByteArray)) (a1 : ByteArray) : evGX (cxU sp_slices_Index_string [lc_slices_Index_string_71_0] 40 1048576) keeps 8 71 ash_slices_Index_string (.dat (.int .i64)) ((a0, a1, ()) : ((List ByteArray) × (ByteArray × Unit))) = g_slices_Index_string a0 a1 := by kernel_rfl
noncomputable def G_slices_Index_string (x : ((List ByteArray) × (ByteArray × Unit))) : Option Int := g_slices_Index_string x.1 x.2.1
noncomputable def con_slices_Index_string : List AV → Prog AV := conP true ash_slices_Index_string (.dat (.int .i64)) G_slices_Index_string
theorem snd_slices_Index_string : SoundA Tryd.prog 71 con_slices_Index_string := conP_sound (calU sp_slices_Index_string [lc_slices_Index_string_71_0] 40 1048576 8 71) true (by rfl) (by rfl) (fun x r e => (evGX_eq _ _ _ _ _ _ _).trans ((raw_slices_Index_string x.1 x.2.1).trans e)) (.inl rfl)
end Go.Proofs.YtmjbedjnojcmfaaDoor.Ex

namespace Go.Proofs.YtmjbedjnojcmfaaDoor.Ex
open Go.Proofs Go.Proofs.YtmjbedjnojcmfaaDoor
set_option maxRecDepth 100000
set_option maxHeartbeats 2000000
set_option linter.unusedVariables false
set_option linter.unusedSimpArgs false
def ash_check_place : List Sh := [.dat .str, .dat (.sl .str)]
noncomputable def sp_check_place : List Con := [⟨71, con_slices_Index_string, snd_slices_Index_string⟩]
noncomputable def g_check_place (a0 : ByteArray) (a1 : (List ByteArray)) : Option Int :=
  optC (G_slices_Index_string (a1, a0, ())) none fun d3 ↦ some d3
theorem raw_check_place (a0 : ByteArray) (a1 : (List ByteArray)) : evGX (cxU sp_check_place [] 40 1048576) keeps 8 42 ash_check_place (.dat (.int .i64)) ((a0, a1, ()) : (ByteArray × ((List ByteArray) × Unit))) = g_check_place a0 a1 := by kernel_rfl
noncomputable def G_check_place (x : (ByteArray × ((List ByteArray) × Unit))) : Option Int := g_check_place x.1 x.2.1
noncomputable def con_check_place : List AV → Prog AV := conP false ash_check_place (.dat (.int .i64)) G_check_place
theorem snd_check_place : SoundA Tryd.prog 42 con_check_place := conP_sound (calU sp_check_place [] 40 1048576 8 42) false (by rfl) (by rfl) (fun x r e => (evGX_eq _ _ _ _ _ _ _).trans ((raw_check_place x.1 x.2.1).trans e)) (.inr fun _ => rfl)
end Go.Proofs.YtmjbedjnojcmfaaDoor.Ex

namespace Go.Proofs.YtmjbedjnojcmfaaDoor.Ex
open Go.Proofs Go.Proofs.YtmjbedjnojcmfaaDoor
set_option maxRecDepth 100000
set_option maxHeartbeats 2000000
set_option linter.unusedVariables false
set_option linter.unusedSimpArgs false
def ash_check_isTwice : List Sh := [.dat (.sl .str)]
def kp_check_isTwice_32_0 : Nat → List Nat := fun c => bif c.beq 0 then [0, 5, 6, 7] else [2]
noncomputable def sp_check_isTwice : List Con := [⟨42, con_check_place, snd_check_place⟩]
def s_check_isTwice_32_0_0 : StS := ⟨[(0, .sl .str), (5, .sl .str), (6, .int .i64), (7, .int .i64)], [], 0⟩
def x_check_isTwice_32_0_0_0 : StS := ⟨[(2, .undef)], [], 0⟩
def x_check_isTwice_32_0_0_1 : StS := ⟨[(2, .bool)], [], 0⟩
abbrev X_check_isTwice_32_0_0 := ((List ByteArray) × (List ByteArray) × Int × Int)
def fl_check_isTwice_32_0_0 (d : StD s_check_isTwice_32_0_0) : X_check_isTwice_32_0_0 := (d.1.1, d.1.2.1, d.1.2.2.1, d.1.2.2.2.1)
def un_check_isTwice_32_0_0 (x : X_check_isTwice_32_0_0) : StD s_check_isTwice_32_0_0 := ((x.1, x.2.1, x.2.2.1, x.2.2.2, ()), ())
abbrev X_check_isTwice_32_0_0_0 := Unit
def fl_check_isTwice_32_0_0_0 (d : StD x_check_isTwice_32_0_0_0) : X_check_isTwice_32_0_0_0 := ()
def un_check_isTwice_32_0_0_0 (x : X_check_isTwice_32_0_0_0) : StD x_check_isTwice_32_0_0_0 := (((), ()), ())
abbrev X_check_isTwice_32_0_0_1 := Bool
def fl_check_isTwice_32_0_0_1 (d : StD x_check_isTwice_32_0_0_1) : X_check_isTwice_32_0_0_1 := (d.1.1)
def un_check_isTwice_32_0_0_1 (x : X_check_isTwice_32_0_0_1) : StD x_check_isTwice_32_0_0_1 := ((x, ()), ())
noncomputable def st_check_isTwice_32_0_0 (s0 : (List ByteArray)) (s5 : (List ByteArray)) (s6 : Int) (s7 : Int) : Option (((List ByteArray) × (List ByteArray) × Int × Int) ⊕ (Unit ⊕ Bool)) :=
  bif decide (s7 < s6) then
 bif decide (0 ≤ s7) then
 optC s5[s7.toNat]? none fun d6 ↦
 bif decide ((0 : Int) ≤ 0 ∧ 0 ≤ s7 ∧ s7 ≤ (↑s0.length : Int)) then
 optC (G_check_place (d6, List.drop (Int.toNat (0 : Int)) (List.take s7.toNat s0), ())) none fun d7 ↦
 bif decide (d7 ≥ 0) then some (Sum.inr (Sum.inr true)) else some (Sum.inl (s0, s5, s6, Go.IntKind.i64.wrap (s7 + 1)))
 else none
 else none
 else some (Sum.inr (Sum.inl PUnit.unit))
noncomputable def sx_check_isTwice_32_0_0 (x : X_check_isTwice_32_0_0) : Option (X_check_isTwice_32_0_0 ⊕ (X_check_isTwice_32_0_0_0 ⊕ X_check_isTwice_32_0_0_1)) := st_check_isTwice_32_0_0 x.1 x.2.1 x.2.2.1 x.2.2.2
theorem rn_check_isTwice_32_0_0 (x : X_check_isTwice_32_0_0) : rdX (cxU sp_check_isTwice [] 40 1048576) keeps 8 ⟨32, 19, keeps 32, 0⟩ 0 (bodyX 32 0) 0 kp_check_isTwice_32_0 (sT s_check_isTwice_32_0_0 (un_check_isTwice_32_0_0 x)) (sH s_check_isTwice_32_0_0 (un_check_isTwice_32_0_0 x)) (rdO (fun T h => (rdS s_check_isTwice_32_0_0 T h).map fl_check_isTwice_32_0_0) (getOr (getE 2 x_check_isTwice_32_0_0_0 fl_check_isTwice_32_0_0_0) (getE 1 x_check_isTwice_32_0_0_1 fl_check_isTwice_32_0_0_1))) = sx_check_isTwice_32_0_0 x := by kernel_rfl
noncomputable def L_check_isTwice_32_0_0 (x : X_check_isTwice_32_0_0) : Option (X_check_isTwice_32_0_0_0 ⊕ X_check_isTwice_32_0_0_1) := iterO (fun x => st_check_isTwice_32_0_0 x.1 x.2.1 x.2.2.1 x.2.2.2) FUEL x
noncomputable def q_check_isTwice_32_0 : Nat → Tm → Prog (Nat × Tm) := (varP 0 (fun T h => (rdS s_check_isTwice_32_0_0 T h).map fl_check_isTwice_32_0_0) L_check_isTwice_32_0_0 (fun y => .alt y (altE 2 x_check_isTwice_32_0_0_0 un_check_isTwice_32_0_0_0) (altE 1 x_check_isTwice_32_0_0_1 un_check_isTwice_32_0_0_1)) (fun _ _ => .fail))
noncomputable def lc_check_isTwice_32_0 : Lpc := ⟨32, 0, 19, (fun base T => .norm base (kp_check_isTwice_32_0 0) T (q_check_isTwice_32_0 base)), by kernel_rfl, by kernel_rfl, (loopU sp_check_isTwice [] 40 1048576 8 (keep := kp_check_isTwice_32_0) (q := q_check_isTwice_32_0) (by kernel_rfl) (varX_ok (s := s_check_isTwice_32_0_0) (un := un_check_isTwice_32_0_0) (by rfl) (fun _ => rfl) (getOr_ok (getE_ok (s := x_check_isTwice_32_0_0_0) (un := un_check_isTwice_32_0_0_0) (by rfl) (fun _ => rfl)) (getE_ok (s := x_check_isTwice_32_0_0_1) (un := un_check_isTwice_32_0_0_1) (by rfl) (fun _ => rfl))) (step := sx_check_isTwice_32_0_0) rn_check_isTwice_32_0_0 (fun _ _ e => ⟨_, e⟩) (altOr_ok (altE_ok 2 x_check_isTwice_32_0_0_0 un_check_isTwice_32_0_0_0) (altE_ok 1 x_check_isTwice_32_0_0_1 un_check_isTwice_32_0_0_1)) (VarOk.fail _ _)))⟩
noncomputable def g_check_isTwice (a0 : (List ByteArray)) : Option Bool :=
  optC (L_check_isTwice_32_0_0 (a0, a0, (↑a0.length : Int), 0)) none fun d3 ↦ Sum.elim (fun e4 ↦ some false) (fun e4 ↦ some e4) d3
theorem raw_check_isTwice (a0 : (List ByteArray)) : evGX (cxU sp_check_isTwice [lc_check_isTwice_32_0] 40 1048576) keeps 8 32 ash_check_isTwice (.dat .bool) ((a0, ()) : ((List ByteArray) × Unit)) = g_check_isTwice a0 := by kernel_rfl
noncomputable def G_check_isTwice (x : ((List ByteArray) × Unit)) : Option Bool := g_check_isTwice x.1
noncomputable def con_check_isTwice : List AV → Prog AV := conP false ash_check_isTwice (.dat .bool) G_check_isTwice
theorem snd_check_isTwice : SoundA Tryd.prog 32 con_check_isTwice := conP_sound (calU sp_check_isTwice [lc_check_isTwice_32_0] 40 1048576 8 32) false (by rfl) (by rfl) (fun x r e => (evGX_eq _ _ _ _ _ _ _).trans ((raw_check_isTwice x.1).trans e)) (.inr fun _ => rfl)
end Go.Proofs.YtmjbedjnojcmfaaDoor.Ex

namespace Go.Proofs.YtmjbedjnojcmfaaDoor.Ex
open Go.Proofs Go.Proofs.YtmjbedjnojcmfaaDoor
set_option maxRecDepth 100000
set_option maxHeartbeats 2000000
set_option linter.unusedVariables false
set_option linter.unusedSimpArgs false
def ash_check_isAlone : List Sh := [.dat tPg]
def kp_check_isAlone_12_0 : Nat → List Nat := fun c => bif c.beq 0 then [1, 3, 4, 12, 13, 14] else [1, 3, 4]
def kp_check_isAlone_12_2 : Nat → List Nat := fun c => bif c.beq 0 then [1, 3, 4, 25, 26, 27] else [1, 3, 4]
def kp_check_isAlone_12_4 : Nat → List Nat := fun c => bif c.beq 0 then [3, 4, 42, 43, 44] else [2, 4]
noncomputable def sp_check_isAlone : List Con := [⟨33, con_slices_Clone_string, snd_slices_Clone_string⟩, ⟨32, con_check_isTwice, snd_check_isTwice⟩]
def s_check_isAlone_12_0_0 : StS := ⟨[(1, .ptr 0 0), (3, .row 1), (4, .nil), (12, .sl tGb), (13, .int .i64), (14, .int .i64)], [(0, .box [.sl tGb, .sl tGb, .sl .str, .sl tTh]), (1, .row .str)], 2⟩
def x_check_isAlone_12_0_0_0 : StS := ⟨[(1, .ptr 0 0), (3, .row 1), (4, .nil)], [(0, .box [.sl tGb, .sl tGb, .sl .str, .sl tTh]), (1, .row .str)], 2⟩
abbrev X_check_isAlone_12_0_0 := ((List Gb) × Int × Int × (List Gb) × (List Gb) × (List ByteArray) × (List Th) × (List ByteArray))
def fl_check_isAlone_12_0_0 (d : StD s_check_isAlone_12_0_0) : X_check_isAlone_12_0_0 := (d.1.2.2.2.1, d.1.2.2.2.2.1, d.1.2.2.2.2.2.1, d.2.1.1, d.2.1.2.1, d.2.1.2.2.1, d.2.1.2.2.2.1, d.2.2.1)
def un_check_isAlone_12_0_0 (x : X_check_isAlone_12_0_0) : StD s_check_isAlone_12_0_0 := (((), (), (), x.1, x.2.1, x.2.2.1, ()), ((x.2.2.2.1, x.2.2.2.2.1, x.2.2.2.2.2.1, x.2.2.2.2.2.2.1, ()), x.2.2.2.2.2.2.2, ()))
abbrev X_check_isAlone_12_0_0_0 := ((List Gb) × (List Gb) × (List ByteArray) × (List Th) × (List ByteArray))
def fl_check_isAlone_12_0_0_0 (d : StD x_check_isAlone_12_0_0_0) : X_check_isAlone_12_0_0_0 := (d.2.1.1, d.2.1.2.1, d.2.1.2.2.1, d.2.1.2.2.2.1, d.2.2.1)
def un_check_isAlone_12_0_0_0 (x : X_check_isAlone_12_0_0_0) : StD x_check_isAlone_12_0_0_0 := (((), (), (), ()), ((x.1, x.2.1, x.2.2.1, x.2.2.2.1, ()), x.2.2.2.2, ()))
noncomputable def st_check_isAlone_12_0_0 (s12 : (List Gb)) (s13 : Int) (s14 : Int) (b0 : (List Gb)) (b0_1 : (List Gb)) (b0_2 : (List ByteArray)) (b0_3 : (List Th)) (b1 : (List ByteArray)) : Option (((List Gb) × Int × Int × (List Gb) × (List Gb) × (List ByteArray) × (List Th) × (List ByteArray)) ⊕ ((List Gb) × (List Gb) × (List ByteArray) × (List Th) × (List ByteArray))) :=
  bif decide (s14 < s13) then
 bif decide (0 ≤ s14) then
 optC s12[s14.toNat]? none fun d12 ↦
 bif decide ((b1.length + [d12.1].length + 1) * 16 ≤ lim) then some (Sum.inl (s12, s13, Go.IntKind.i64.wrap (s14 + 1), b0, b0_1, b0_2, b0_3, b1 ++ [d12.1]))
 else none
 else none
 else some (Sum.inr (b0, b0_1, b0_2, b0_3, b1))
noncomputable def sx_check_isAlone_12_0_0 (x : X_check_isAlone_12_0_0) : Option (X_check_isAlone_12_0_0 ⊕ X_check_isAlone_12_0_0_0) := st_check_isAlone_12_0_0 x.1 x.2.1 x.2.2.1 x.2.2.2.1 x.2.2.2.2.1 x.2.2.2.2.2.1 x.2.2.2.2.2.2.1 x.2.2.2.2.2.2.2
theorem rn_check_isAlone_12_0_0 (x : X_check_isAlone_12_0_0) : rdX (cxU sp_check_isAlone [] 40 1048576) keeps 8 ⟨12, 63, keeps 12, 0⟩ 0 (bodyX 12 0) 0 kp_check_isAlone_12_0 (sT s_check_isAlone_12_0_0 (un_check_isAlone_12_0_0 x)) (sH s_check_isAlone_12_0_0 (un_check_isAlone_12_0_0 x)) (rdO (fun T h => (rdS s_check_isAlone_12_0_0 T h).map fl_check_isAlone_12_0_0) (getE 2 x_check_isAlone_12_0_0_0 fl_check_isAlone_12_0_0_0)) = sx_check_isAlone_12_0_0 x := by kernel_rfl
noncomputable def L_check_isAlone_12_0_0 (x : X_check_isAlone_12_0_0) : Option X_check_isAlone_12_0_0_0 := iterO (fun x => st_check_isAlone_12_0_0 x.1 x.2.1 x.2.2.1 x.2.2.2.1 x.2.2.2.2.1 x.2.2.2.2.2.1 x.2.2.2.2.2.2.1 x.2.2.2.2.2.2.2) FUEL x
noncomputable def q_check_isAlone_12_0 : Nat → Tm → Prog (Nat × Tm) := (varP 0 (fun T h => (rdS s_check_isAlone_12_0_0 T h).map fl_check_isAlone_12_0_0) L_check_isAlone_12_0_0 (altE 2 x_check_isAlone_12_0_0_0 un_check_isAlone_12_0_0_0) (fun _ _ => .fail))
noncomputable def lc_check_isAlone_12_0 : Lpc := ⟨12, 0, 63, (ownP [] [(3, .str)] (kp_check_isAlone_12_0 0) (fun base T => .norm base (kp_check_isAlone_12_0 0) T (q_check_isAlone_12_0 base))), by kernel_rfl, by kernel_rfl, (own_sound (loopU sp_check_isAlone [] 40 1048576 8 (keep := kp_check_isAlone_12_0) (q := q_check_isAlone_12_0) (by kernel_rfl) (varX_ok (s := s_check_isAlone_12_0_0) (un := un_check_isAlone_12_0_0) (by rfl) (fun _ => rfl) (getE_ok (s := x_check_isAlone_12_0_0_0) (un := un_check_isAlone_12_0_0_0) (by rfl) (fun _ => rfl)) (step := sx_check_isAlone_12_0_0) rn_check_isAlone_12_0_0 (fun _ _ e => ⟨_, e⟩) (altE_ok 2 x_check_isAlone_12_0_0_0 un_check_isAlone_12_0_0_0) (VarOk.fail _ _))))⟩
noncomputable abbrev cx_check_isAlone_12_2 := cxU sp_check_isAlone [lc_check_isAlone_12_0] 40 1048576
def s_check_isAlone_12_2_0 : StS := ⟨[(1, .ptr 0 0), (3, .row 1), (4, .nil), (25, .sl tGb), (26, .int .i64), (27, .int .i64)], [(0, .box [.sl tGb, .sl tGb, .sl .str, .sl tTh]), (1, .row .str)], 2⟩
def x_check_isAlone_12_2_0_0 : StS := ⟨[(1, .ptr 0 0), (3, .row 1), (4, .nil)], [(0, .box [.sl tGb, .sl tGb, .sl .str, .sl tTh]), (1, .row .str)], 2⟩
abbrev X_check_isAlone_12_2_0 := ((List Gb) × Int × Int × (List Gb) × (List Gb) × (List ByteArray) × (List Th) × (List ByteArray))
def fl_check_isAlone_12_2_0 (d : StD s_check_isAlone_12_2_0) : X_check_isAlone_12_2_0 := (d.1.2.2.2.1, d.1.2.2.2.2.1, d.1.2.2.2.2.2.1, d.2.1.1, d.2.1.2.1, d.2.1.2.2.1, d.2.1.2.2.2.1, d.2.2.1)
def un_check_isAlone_12_2_0 (x : X_check_isAlone_12_2_0) : StD s_check_isAlone_12_2_0 := (((), (), (), x.1, x.2.1, x.2.2.1, ()), ((x.2.2.2.1, x.2.2.2.2.1, x.2.2.2.2.2.1, x.2.2.2.2.2.2.1, ()), x.2.2.2.2.2.2.2, ()))
abbrev X_check_isAlone_12_2_0_0 := ((List Gb) × (List Gb) × (List ByteArray) × (List Th) × (List ByteArray))
def fl_check_isAlone_12_2_0_0 (d : StD x_check_isAlone_12_2_0_0) : X_check_isAlone_12_2_0_0 := (d.2.1.1, d.2.1.2.1, d.2.1.2.2.1, d.2.1.2.2.2.1, d.2.2.1)
def un_check_isAlone_12_2_0_0 (x : X_check_isAlone_12_2_0_0) : StD x_check_isAlone_12_2_0_0 := (((), (), (), ()), ((x.1, x.2.1, x.2.2.1, x.2.2.2.1, ()), x.2.2.2.2, ()))
noncomputable def st_check_isAlone_12_2_0 (s25 : (List Gb)) (s26 : Int) (s27 : Int) (b0 : (List Gb)) (b0_1 : (List Gb)) (b0_2 : (List ByteArray)) (b0_3 : (List Th)) (b1 : (List ByteArray)) : Option (((List Gb) × Int × Int × (List Gb) × (List Gb) × (List ByteArray) × (List Th) × (List ByteArray)) ⊕ ((List Gb) × (List Gb) × (List ByteArray) × (List Th) × (List ByteArray))) :=
  bif decide (s27 < s26) then
 bif decide (0 ≤ s27) then
 optC s25[s27.toNat]? none fun d12 ↦
 bif decide ((b1.length + [d12.1].length + 1) * 16 ≤ lim) then some (Sum.inl (s25, s26, Go.IntKind.i64.wrap (s27 + 1), b0, b0_1, b0_2, b0_3, b1 ++ [d12.1]))
 else none
 else none
 else some (Sum.inr (b0, b0_1, b0_2, b0_3, b1))
noncomputable def sx_check_isAlone_12_2_0 (x : X_check_isAlone_12_2_0) : Option (X_check_isAlone_12_2_0 ⊕ X_check_isAlone_12_2_0_0) := st_check_isAlone_12_2_0 x.1 x.2.1 x.2.2.1 x.2.2.2.1 x.2.2.2.2.1 x.2.2.2.2.2.1 x.2.2.2.2.2.2.1 x.2.2.2.2.2.2.2
theorem rn_check_isAlone_12_2_0 (x : X_check_isAlone_12_2_0) : rdX cx_check_isAlone_12_2 keeps 8 ⟨12, 63, keeps 12, 0⟩ 2 (bodyX 12 2) 0 kp_check_isAlone_12_2 (sT s_check_isAlone_12_2_0 (un_check_isAlone_12_2_0 x)) (sH s_check_isAlone_12_2_0 (un_check_isAlone_12_2_0 x)) (rdO (fun T h => (rdS s_check_isAlone_12_2_0 T h).map fl_check_isAlone_12_2_0) (getE 4 x_check_isAlone_12_2_0_0 fl_check_isAlone_12_2_0_0)) = sx_check_isAlone_12_2_0 x := by kernel_rfl
noncomputable def L_check_isAlone_12_2_0 (x : X_check_isAlone_12_2_0) : Option X_check_isAlone_12_2_0_0 := iterO (fun x => st_check_isAlone_12_2_0 x.1 x.2.1 x.2.2.1 x.2.2.2.1 x.2.2.2.2.1 x.2.2.2.2.2.1 x.2.2.2.2.2.2.1 x.2.2.2.2.2.2.2) FUEL x
noncomputable def q_check_isAlone_12_2 : Nat → Tm → Prog (Nat × Tm) := (varP 0 (fun T h => (rdS s_check_isAlone_12_2_0 T h).map fl_check_isAlone_12_2_0) L_check_isAlone_12_2_0 (altE 4 x_check_isAlone_12_2_0_0 un_check_isAlone_12_2_0_0) (fun _ _ => .fail))
noncomputable def lc_check_isAlone_12_2 : Lpc := ⟨12, 2, 63, (fun base T => .norm base (kp_check_isAlone_12_2 0) T (q_check_isAlone_12_2 base)), by kernel_rfl, by kernel_rfl, (loopU sp_check_isAlone [lc_check_isAlone_12_0] 40 1048576 8 (keep := kp_check_isAlone_12_2) (q := q_check_isAlone_12_2) (by kernel_rfl) (varX_ok (s := s_check_isAlone_12_2_0) (un := un_check_isAlone_12_2_0) (by rfl) (fun _ => rfl) (getE_ok (s := x_check_isAlone_12_2_0_0) (un := un_check_isAlone_12_2_0_0) (by rfl) (fun _ => rfl)) (step := sx_check_isAlone_12_2_0) rn_check_isAlone_12_2_0 (fun _ _ e => ⟨_, e⟩) (altE_ok 4 x_check_isAlone_12_2_0_0 un_check_isAlone_12_2_0_0) (VarOk.fail _ _)))⟩
noncomputable abbrev cx_check_isAlone_12_4 := cxU sp_check_isAlone [lc_check_isAlone_12_0, lc_check_isAlone_12_2] 40 1048576
def s_check_isAlone_12_4_0 : StS := ⟨[(3, .row 0), (4, .row 1), (42, .sl tTh), (43, .int .i64), (44, .int .i64)], [(0, .row .str), (1, .row .str)], 2⟩
def x_check_isAlone_12_4_0_0 : StS := ⟨[(2, .undef), (4, .row 0)], [(0, .row .str)], 1⟩
def x_check_isAlone_12_4_0_1 : StS := ⟨[(2, .bool), (4, .row 0)], [(0, .row .str)], 1⟩
abbrev X_check_isAlone_12_4_0 := ((List Th) × Int × Int × (List ByteArray) × (List ByteArray))
def fl_check_isAlone_12_4_0 (d : StD s_check_isAlone_12_4_0) : X_check_isAlone_12_4_0 := (d.1.2.2.1, d.1.2.2.2.1, d.1.2.2.2.2.1, d.2.1, d.2.2.1)
def un_check_isAlone_12_4_0 (x : X_check_isAlone_12_4_0) : StD s_check_isAlone_12_4_0 := (((), (), x.1, x.2.1, x.2.2.1, ()), (x.2.2.2.1, x.2.2.2.2, ()))
abbrev X_check_isAlone_12_4_0_0 := (List ByteArray)
def fl_check_isAlone_12_4_0_0 (d : StD x_check_isAlone_12_4_0_0) : X_check_isAlone_12_4_0_0 := (d.2.1)
def un_check_isAlone_12_4_0_0 (x : X_check_isAlone_12_4_0_0) : StD x_check_isAlone_12_4_0_0 := (((), (), ()), (x, ()))
abbrev X_check_isAlone_12_4_0_1 := (Bool × (List ByteArray))
def fl_check_isAlone_12_4_0_1 (d : StD x_check_isAlone_12_4_0_1) : X_check_isAlone_12_4_0_1 := (d.1.1, d.2.1)
def un_check_isAlone_12_4_0_1 (x : X_check_isAlone_12_4_0_1) : StD x_check_isAlone_12_4_0_1 := ((x.1, (), ()), (x.2, ()))
noncomputable def st_check_isAlone_12_4_0 (s42 : (List Th)) (s43 : Int) (s44 : Int) (b0 : (List ByteArray)) (b1 : (List ByteArray)) : Option (((List Th) × Int × Int × (List ByteArray) × (List ByteArray)) ⊕ ((List ByteArray) ⊕ (Bool × (List ByteArray)))) :=
  bif decide (s44 < s43) then
 bif decide (0 ≤ s44) then
 optC s42[s44.toNat]? none fun d9 ↦
 bif decide ((b1.length + [d9.1].length + 1) * 16 ≤ lim) then
 bif decide (((List.length (α := I) []) + b0.length + 1) * 16 ≤ lim) then
 bif decide ((([] ++ b0).length + List.length d9.2.1 + 1) * 16 ≤ lim) then
 optC (G_check_isTwice ([] ++ b0 ++ d9.2.1, ())) none fun d10 ↦
 bif d10 then some (Sum.inr (Sum.inr (false, b1 ++ [d9.1]))) else some (Sum.inl (s42, s43, Go.IntKind.i64.wrap (s44 + 1), b0, b1 ++ [d9.1]))
 else none
 else none
 else none
 else none
 else some (Sum.inr (Sum.inl b1))
noncomputable def sx_check_isAlone_12_4_0 (x : X_check_isAlone_12_4_0) : Option (X_check_isAlone_12_4_0 ⊕ (X_check_isAlone_12_4_0_0 ⊕ X_check_isAlone_12_4_0_1)) := st_check_isAlone_12_4_0 x.1 x.2.1 x.2.2.1 x.2.2.2.1 x.2.2.2.2
theorem rn_check_isAlone_12_4_0 (x : X_check_isAlone_12_4_0) : rdX cx_check_isAlone_12_4 keeps 8 ⟨12, 63, keeps 12, 0⟩ 4 (bodyX 12 4) 0 kp_check_isAlone_12_4 (sT s_check_isAlone_12_4_0 (un_check_isAlone_12_4_0 x)) (sH s_check_isAlone_12_4_0 (un_check_isAlone_12_4_0 x)) (rdO (fun T h => (rdS s_check_isAlone_12_4_0 T h).map fl_check_isAlone_12_4_0) (getOr (getE 6 x_check_isAlone_12_4_0_0 fl_check_isAlone_12_4_0_0) (getE 1 x_check_isAlone_12_4_0_1 fl_check_isAlone_12_4_0_1))) = sx_check_isAlone_12_4_0 x := by kernel_rfl
noncomputable def L_check_isAlone_12_4_0 (x : X_check_isAlone_12_4_0) : Option (X_check_isAlone_12_4_0_0 ⊕ X_check_isAlone_12_4_0_1) := iterO (fun x => st_check_isAlone_12_4_0 x.1 x.2.1 x.2.2.1 x.2.2.2.1 x.2.2.2.2) FUEL x
noncomputable def q_check_isAlone_12_4 : Nat → Tm → Prog (Nat × Tm) := (varP 0 (fun T h => (rdS s_check_isAlone_12_4_0 T h).map fl_check_isAlone_12_4_0) L_check_isAlone_12_4_0 (fun y => .alt y (altE 6 x_check_isAlone_12_4_0_0 un_check_isAlone_12_4_0_0) (altE 1 x_check_isAlone_12_4_0_1 un_check_isAlone_12_4_0_1)) (fun _ _ => .fail))
noncomputable def lc_check_isAlone_12_4 : Lpc := ⟨12, 4, 63, (ownP [] [(4, .str)] (kp_check_isAlone_12_4 0) (fun base T => .norm base (kp_check_isAlone_12_4 0) T (q_check_isAlone_12_4 base))), by kernel_rfl, by kernel_rfl, (own_sound (loopU sp_check_isAlone [lc_check_isAlone_12_0, lc_check_isAlone_12_2] 40 1048576 8 (keep := kp_check_isAlone_12_4) (q := q_check_isAlone_12_4) (by kernel_rfl) (varX_ok (s := s_check_isAlone_12_4_0) (un := un_check_isAlone_12_4_0) (by rfl) (fun _ => rfl) (getOr_ok (getE_ok (s := x_check_isAlone_12_4_0_0) (un := un_check_isAlone_12_4_0_0) (by rfl) (fun _ => rfl)) (getE_ok (s := x_check_isAlone_12_4_0_1) (un := un_check_isAlone_12_4_0_1) (by rfl) (fun _ => rfl))) (step := sx_check_isAlone_12_4_0) rn_check_isAlone_12_4_0 (fun _ _ e => ⟨_, e⟩) (altOr_ok (altE_ok 6 x_check_isAlone_12_4_0_0 un_check_isAlone_12_4_0_0) (altE_ok 1 x_check_isAlone_12_4_0_1 un_check_isAlone_12_4_0_1)) (VarOk.fail _ _))))⟩
noncomputable def g_check_isAlone (a0 : Pg) : Option Bool :=
  optC (L_check_isAlone_12_0_0 (a0.1, (↑(List.length a0.1) : Int), 0, a0.1, a0.2.1, a0.2.2.1, a0.2.2.2, [])) none fun d5 ↦
 optC (L_check_isAlone_12_2_0 (d5.2.1, (↑d5.2.1.length : Int), 0, d5)) none fun d6 ↦
 bif decide ((d6.2.2.2.2.length + d6.2.2.1.length + 1) * 16 ≤ lim) then
 optC (L_check_isAlone_12_4_0 (d6.2.2.2.1, (↑d6.2.2.2.1.length : Int), 0, d6.2.2.2.2 ++ d6.2.2.1, [])) none fun d7 ↦
 Sum.elim (fun e8 ↦ optC (G_check_isTwice (e8, ())) none fun d9 ↦ some !d9) (fun e8 ↦ some e8.1) d7
 else none
theorem raw_check_isAlone (a0 : Pg) : evGX (cxU sp_check_isAlone [lc_check_isAlone_12_0, lc_check_isAlone_12_2, lc_check_isAlone_12_4] 40 1048576) keeps 8 12 ash_check_isAlone (.dat .bool) ((a0, ()) : (Pg × Unit)) = g_check_isAlone a0 := by kernel_rfl
noncomputable def G_check_isAlone (x : (Pg × Unit)) : Option Bool := g_check_isAlone x.1
noncomputable def con_check_isAlone : List AV → Prog AV := conP false ash_check_isAlone (.dat .bool) G_check_isAlone
theorem snd_check_isAlone : SoundA Tryd.prog 12 con_check_isAlone := conP_sound (calU sp_check_isAlone [lc_check_isAlone_12_0, lc_check_isAlone_12_2, lc_check_isAlone_12_4] 40 1048576 8 12) false (by rfl) (by rfl) (fun x r e => (evGX_eq _ _ _ _ _ _ _).trans ((raw_check_isAlone x.1).trans e)) (.inr fun _ => rfl)
end Go.Proofs.YtmjbedjnojcmfaaDoor.Ex

namespace Go.Proofs.YtmjbedjnojcmfaaDoor.Ex
open Go.Proofs Go.Proofs.YtmjbedjnojcmfaaDoor
set_option maxRecDepth 100000
set_option maxHeartbeats 2000000
set_option linter.unusedVariables false
set_option linter.unusedSimpArgs false
def ash_check_Local : List Sh := [.dat tTh, .dat .str]
noncomputable def sp_check_Local : List Con := [⟨42, con_check_place, snd_check_place⟩]
noncomputable def g_check_Local (a0 : Th) (a1 : ByteArray) : Option Int :=
  optC (G_check_place (a1, a0.2.1, ())) none fun d3 ↦ some d3
theorem raw_check_Local (a0 : Th) (a1 : ByteArray) : evGX (cxU sp_check_Local [] 40 1048576) keeps 8 65 ash_check_Local (.dat (.int .i64)) ((a0, a1, ()) : (Th × (ByteArray × Unit))) = g_check_Local a0 a1 := by kernel_rfl
noncomputable def G_check_Local (x : (Th × (ByteArray × Unit))) : Option Int := g_check_Local x.1 x.2.1
noncomputable def con_check_Local : List AV → Prog AV := conP false ash_check_Local (.dat (.int .i64)) G_check_Local
theorem snd_check_Local : SoundA Tryd.prog 65 con_check_Local := conP_sound (calU sp_check_Local [] 40 1048576 8 65) false (by rfl) (by rfl) (fun x r e => (evGX_eq _ _ _ _ _ _ _).trans ((raw_check_Local x.1 x.2.1).trans e)) (.inr fun _ => rfl)
end Go.Proofs.YtmjbedjnojcmfaaDoor.Ex

namespace Go.Proofs.YtmjbedjnojcmfaaDoor.Ex
open Go.Proofs Go.Proofs.YtmjbedjnojcmfaaDoor
set_option maxRecDepth 100000
set_option maxHeartbeats 2000000
set_option linter.unusedVariables false
set_option linter.unusedSimpArgs false
def ash_check_Global : List Sh := [.dat tPg, .dat .str]
def kp_check_Global_76_0 : Nat → List Nat := fun c => bif c.beq 0 then [0, 1, 7, 8] else [4]
noncomputable def sp_check_Global : List Con := []
def s_check_Global_76_0_0 : StS := ⟨[(0, .sl tGb), (1, .clo 85 [] [.ptr 1 0]), (7, .int .i64), (8, .int .i64)], [(1, .box [.str]), (0, .box [.sl tGb, .sl tGb, .sl .str, .sl tTh])], 2⟩
def x_check_Global_76_0_0_0 : StS := ⟨[(4, .undef)], [(1, .box [.str]), (0, .box [.sl tGb, .sl tGb, .sl .str, .sl tTh])], 2⟩
def x_check_Global_76_0_0_1 : StS := ⟨[(4, .int .i64)], [(1, .box [.str]), (0, .box [.sl tGb, .sl tGb, .sl .str, .sl tTh])], 2⟩
abbrev X_check_Global_76_0_0 := ((List Gb) × Int × Int × ByteArray × (List Gb) × (List Gb) × (List ByteArray) × (List Th))
def fl_check_Global_76_0_0 (d : StD s_check_Global_76_0_0) : X_check_Global_76_0_0 := (d.1.1, d.1.2.2.1, d.1.2.2.2.1, d.2.1.1, d.2.2.1.1, d.2.2.1.2.1, d.2.2.1.2.2.1, d.2.2.1.2.2.2.1)
def un_check_Global_76_0_0 (x : X_check_Global_76_0_0) : StD s_check_Global_76_0_0 := ((x.1, ((), ((), ())), x.2.1, x.2.2.1, ()), ((x.2.2.2.1, ()), (x.2.2.2.2.1, x.2.2.2.2.2.1, x.2.2.2.2.2.2.1, x.2.2.2.2.2.2.2, ()), ()))
abbrev X_check_Global_76_0_0_0 := (ByteArray × (List Gb) × (List Gb) × (List ByteArray) × (List Th))
def fl_check_Global_76_0_0_0 (d : StD x_check_Global_76_0_0_0) : X_check_Global_76_0_0_0 := (d.2.1.1, d.2.2.1.1, d.2.2.1.2.1, d.2.2.1.2.2.1, d.2.2.1.2.2.2.1)
def un_check_Global_76_0_0_0 (x : X_check_Global_76_0_0_0) : StD x_check_Global_76_0_0_0 := (((), ()), ((x.1, ()), (x.2.1, x.2.2.1, x.2.2.2.1, x.2.2.2.2, ()), ()))
abbrev X_check_Global_76_0_0_1 := (Int × ByteArray × (List Gb) × (List Gb) × (List ByteArray) × (List Th))
def fl_check_Global_76_0_0_1 (d : StD x_check_Global_76_0_0_1) : X_check_Global_76_0_0_1 := (d.1.1, d.2.1.1, d.2.2.1.1, d.2.2.1.2.1, d.2.2.1.2.2.1, d.2.2.1.2.2.2.1)
def un_check_Global_76_0_0_1 (x : X_check_Global_76_0_0_1) : StD x_check_Global_76_0_0_1 := ((x.1, ()), ((x.2.1, ()), (x.2.2.1, x.2.2.2.1, x.2.2.2.2.1, x.2.2.2.2.2, ()), ()))
noncomputable def st_check_Global_76_0_0 (s0 : (List Gb)) (s7 : Int) (s8 : Int) (b1 : ByteArray) (b0 : (List Gb)) (b0_1 : (List Gb)) (b0_2 : (List ByteArray)) (b0_3 : (List Th)) : Option (((List Gb) × Int × Int × ByteArray × (List Gb) × (List Gb) × (List ByteArray) × (List Th)) ⊕ ((ByteArray × (List Gb) × (List Gb) × (List ByteArray) × (List Th)) ⊕ (Int × ByteArray × (List Gb) × (List Gb) × (List ByteArray) × (List Th)))) :=
  bif decide (s8 < s7) then
 bif decide (0 ≤ s8) then
 optC s0[s8.toNat]? none fun d10 ↦
 bif ByteArray.toList d10.1 == b1.toList then some (Sum.inr (Sum.inr (s8, b1, b0, b0_1, b0_2, b0_3)))
 else some (Sum.inl (s0, s7, Go.IntKind.i64.wrap (s8 + 1), b1, b0, b0_1, b0_2, b0_3))
 else none
 else some (Sum.inr (Sum.inl (b1, b0, b0_1, b0_2, b0_3)))
noncomputable def sx_check_Global_76_0_0 (x : X_check_Global_76_0_0) : Option (X_check_Global_76_0_0 ⊕ (X_check_Global_76_0_0_0 ⊕ X_check_Global_76_0_0_1)) := st_check_Global_76_0_0 x.1 x.2.1 x.2.2.1 x.2.2.2.1 x.2.2.2.2.1 x.2.2.2.2.2.1 x.2.2.2.2.2.2.1 x.2.2.2.2.2.2.2
theorem rn_check_Global_76_0_0 (x : X_check_Global_76_0_0) : rdX (cxU sp_check_Global [] 40 1048576) keeps 8 ⟨76, 19, keeps 76, 2⟩ 0 (bodyX 76 0) 2 kp_check_Global_76_0 (sT s_check_Global_76_0_0 (un_check_Global_76_0_0 x)) (sH s_check_Global_76_0_0 (un_check_Global_76_0_0 x)) (rdO (fun T h => (rdS s_check_Global_76_0_0 T h).map fl_check_Global_76_0_0) (getOr (getE 2 x_check_Global_76_0_0_0 fl_check_Global_76_0_0_0) (getE 1 x_check_Global_76_0_0_1 fl_check_Global_76_0_0_1))) = sx_check_Global_76_0_0 x := by kernel_rfl
noncomputable def L_check_Global_76_0_0 (x : X_check_Global_76_0_0) : Option (X_check_Global_76_0_0_0 ⊕ X_check_Global_76_0_0_1) := iterO (fun x => st_check_Global_76_0_0 x.1 x.2.1 x.2.2.1 x.2.2.2.1 x.2.2.2.2.1 x.2.2.2.2.2.1 x.2.2.2.2.2.2.1 x.2.2.2.2.2.2.2) FUEL x
noncomputable def q_check_Global_76_0 : Nat → Tm → Prog (Nat × Tm) := (varP 2 (fun T h => (rdS s_check_Global_76_0_0 T h).map fl_check_Global_76_0_0) L_check_Global_76_0_0 (fun y => .alt y (altE 2 x_check_Global_76_0_0_0 un_check_Global_76_0_0_0) (altE 1 x_check_Global_76_0_0_1 un_check_Global_76_0_0_1)) (fun _ _ => .fail))
noncomputable def lc_check_Global_76_0 : Lpc := ⟨76, 0, 19, (fun base T => .norm base (kp_check_Global_76_0 0) T (q_check_Global_76_0 base)), by kernel_rfl, by kernel_rfl, (loopU sp_check_Global [] 40 1048576 8 (keep := kp_check_Global_76_0) (q := q_check_Global_76_0) (by kernel_rfl) (varX_ok (s := s_check_Global_76_0_0) (un := un_check_Global_76_0_0) (by rfl) (fun _ => rfl) (getOr_ok (getE_ok (s := x_check_Global_76_0_0_0) (un := un_check_Global_76_0_0_0) (by rfl) (fun _ => rfl)) (getE_ok (s := x_check_Global_76_0_0_1) (un := un_check_Global_76_0_0_1) (by rfl) (fun _ => rfl))) (step := sx_check_Global_76_0_0) rn_check_Global_76_0_0 (fun _ _ e => ⟨_, e⟩) (altOr_ok (altE_ok 2 x_check_Global_76_0_0_0 un_check_Global_76_0_0_0) (altE_ok 1 x_check_Global_76_0_0_1 un_check_Global_76_0_0_1)) (VarOk.fail _ _)))⟩
noncomputable def g_check_Global (a0 : Pg) (a1 : ByteArray) : Option Int :=
  optC (L_check_Global_76_0_0 (a0.1, (↑(List.length a0.1) : Int), 0, a1, a0)) none fun d4 ↦ Sum.elim (fun e5 ↦ some (-1)) (fun e5 ↦ some e5.1) d4
theorem raw_check_Global (a0 : Pg) (a1 : ByteArray) : evGX (cxU sp_check_Global [lc_check_Global_76_0] 40 1048576) keeps 8 66 ash_check_Global (.dat (.int .i64)) ((a0, a1, ()) : (Pg × (ByteArray × Unit))) = g_check_Global a0 a1 := by kernel_rfl
noncomputable def G_check_Global (x : (Pg × (ByteArray × Unit))) : Option Int := g_check_Global x.1 x.2.1
noncomputable def con_check_Global : List AV → Prog AV := conP false ash_check_Global (.dat (.int .i64)) G_check_Global
theorem snd_check_Global : SoundA Tryd.prog 66 con_check_Global := conP_sound (calU sp_check_Global [lc_check_Global_76_0] 40 1048576 8 66) false (by rfl) (by rfl) (fun x r e => (evGX_eq _ _ _ _ _ _ _).trans ((raw_check_Global x.1 x.2.1).trans e)) (.inr fun _ => rfl)
end Go.Proofs.YtmjbedjnojcmfaaDoor.Ex

namespace Go.Proofs.YtmjbedjnojcmfaaDoor.Ex
open Go.Proofs Go.Proofs.YtmjbedjnojcmfaaDoor
set_option maxRecDepth 100000
set_option maxHeartbeats 2000000
set_option linter.unusedVariables false
set_option linter.unusedSimpArgs false
def ash_check_scope_isVar : List Sh := [.dat (.st (.pair tPg tTh)), .dat .str]
noncomputable def sp_check_scope_isVar : List Con := [⟨65, con_check_Local, snd_check_Local⟩, ⟨66, con_check_Global, snd_check_Global⟩]
noncomputable def g_check_scope_isVar (a0 : (Pg × Th)) (a1 : ByteArray) : Option Bool :=
  optC (G_check_Local (a0.2, a1, ())) none fun d3 ↦
 bif decide (d3 ≥ 0) then some true else optC (G_check_Global (a0.1, a1, ())) none fun d4 ↦ some (decide (d4 ≥ 0))
theorem raw_check_scope_isVar (a0 : (Pg × Th)) (a1 : ByteArray) : evGX (cxU sp_check_scope_isVar [] 40 1048576) keeps 8 38 ash_check_scope_isVar (.dat .bool) ((a0, a1, ()) : ((Pg × Th) × (ByteArray × Unit))) = g_check_scope_isVar a0 a1 := by kernel_rfl
noncomputable def G_check_scope_isVar (x : ((Pg × Th) × (ByteArray × Unit))) : Option Bool := g_check_scope_isVar x.1 x.2.1
noncomputable def con_check_scope_isVar : List AV → Prog AV := conP true ash_check_scope_isVar (.dat .bool) G_check_scope_isVar
theorem snd_check_scope_isVar : SoundA Tryd.prog 38 con_check_scope_isVar := conP_sound (calU sp_check_scope_isVar [] 40 1048576 8 38) true (by rfl) (by rfl) (fun x r e => (evGX_eq _ _ _ _ _ _ _).trans ((raw_check_scope_isVar x.1 x.2.1).trans e)) (.inl rfl)
end Go.Proofs.YtmjbedjnojcmfaaDoor.Ex

namespace Go.Proofs.YtmjbedjnojcmfaaDoor.Ex
open Go.Proofs Go.Proofs.YtmjbedjnojcmfaaDoor
set_option maxRecDepth 100000
set_option maxHeartbeats 2000000
set_option linter.unusedVariables false
set_option linter.unusedSimpArgs false
def ash_check_Array : List Sh := [.dat tPg, .dat .str]
def kp_check_Array_68_0 : Nat → List Nat := fun c => bif c.beq 0 then [0, 1, 7, 8] else [4]
noncomputable def sp_check_Array : List Con := []
def s_check_Array_68_0_0 : StS := ⟨[(0, .sl tGb), (1, .clo 69 [] [.ptr 1 0]), (7, .int .i64), (8, .int .i64)], [(1, .box [.str]), (0, .box [.sl tGb, .sl tGb, .sl .str, .sl tTh])], 2⟩
def x_check_Array_68_0_0_0 : StS := ⟨[(4, .undef)], [(1, .box [.str]), (0, .box [.sl tGb, .sl tGb, .sl .str, .sl tTh])], 2⟩
def x_check_Array_68_0_0_1 : StS := ⟨[(4, .int .i64)], [(1, .box [.str]), (0, .box [.sl tGb, .sl tGb, .sl .str, .sl tTh])], 2⟩
abbrev X_check_Array_68_0_0 := ((List Gb) × Int × Int × ByteArray × (List Gb) × (List Gb) × (List ByteArray) × (List Th))
def fl_check_Array_68_0_0 (d : StD s_check_Array_68_0_0) : X_check_Array_68_0_0 := (d.1.1, d.1.2.2.1, d.1.2.2.2.1, d.2.1.1, d.2.2.1.1, d.2.2.1.2.1, d.2.2.1.2.2.1, d.2.2.1.2.2.2.1)
def un_check_Array_68_0_0 (x : X_check_Array_68_0_0) : StD s_check_Array_68_0_0 := ((x.1, ((), ((), ())), x.2.1, x.2.2.1, ()), ((x.2.2.2.1, ()), (x.2.2.2.2.1, x.2.2.2.2.2.1, x.2.2.2.2.2.2.1, x.2.2.2.2.2.2.2, ()), ()))
abbrev X_check_Array_68_0_0_0 := (ByteArray × (List Gb) × (List Gb) × (List ByteArray) × (List Th))
def fl_check_Array_68_0_0_0 (d : StD x_check_Array_68_0_0_0) : X_check_Array_68_0_0_0 := (d.2.1.1, d.2.2.1.1, d.2.2.1.2.1, d.2.2.1.2.2.1, d.2.2.1.2.2.2.1)
def un_check_Array_68_0_0_0 (x : X_check_Array_68_0_0_0) : StD x_check_Array_68_0_0_0 := (((), ()), ((x.1, ()), (x.2.1, x.2.2.1, x.2.2.2.1, x.2.2.2.2, ()), ()))
abbrev X_check_Array_68_0_0_1 := (Int × ByteArray × (List Gb) × (List Gb) × (List ByteArray) × (List Th))
def fl_check_Array_68_0_0_1 (d : StD x_check_Array_68_0_0_1) : X_check_Array_68_0_0_1 := (d.1.1, d.2.1.1, d.2.2.1.1, d.2.2.1.2.1, d.2.2.1.2.2.1, d.2.2.1.2.2.2.1)
def un_check_Array_68_0_0_1 (x : X_check_Array_68_0_0_1) : StD x_check_Array_68_0_0_1 := ((x.1, ()), ((x.2.1, ()), (x.2.2.1, x.2.2.2.1, x.2.2.2.2.1, x.2.2.2.2.2, ()), ()))
noncomputable def st_check_Array_68_0_0 (s0 : (List Gb)) (s7 : Int) (s8 : Int) (b1 : ByteArray) (b0 : (List Gb)) (b0_1 : (List Gb)) (b0_2 : (List ByteArray)) (b0_3 : (List Th)) : Option (((List Gb) × Int × Int × ByteArray × (List Gb) × (List Gb) × (List ByteArray) × (List Th)) ⊕ ((ByteArray × (List Gb) × (List Gb) × (List ByteArray) × (List Th)) ⊕ (Int × ByteArray × (List Gb) × (List Gb) × (List ByteArray) × (List Th)))) :=
  bif decide (s8 < s7) then
 bif decide (0 ≤ s8) then
 optC s0[s8.toNat]? none fun d10 ↦
 bif ByteArray.toList d10.1 == b1.toList then some (Sum.inr (Sum.inr (s8, b1, b0, b0_1, b0_2, b0_3)))
 else some (Sum.inl (s0, s7, Go.IntKind.i64.wrap (s8 + 1), b1, b0, b0_1, b0_2, b0_3))
 else none
 else some (Sum.inr (Sum.inl (b1, b0, b0_1, b0_2, b0_3)))
noncomputable def sx_check_Array_68_0_0 (x : X_check_Array_68_0_0) : Option (X_check_Array_68_0_0 ⊕ (X_check_Array_68_0_0_0 ⊕ X_check_Array_68_0_0_1)) := st_check_Array_68_0_0 x.1 x.2.1 x.2.2.1 x.2.2.2.1 x.2.2.2.2.1 x.2.2.2.2.2.1 x.2.2.2.2.2.2.1 x.2.2.2.2.2.2.2
theorem rn_check_Array_68_0_0 (x : X_check_Array_68_0_0) : rdX (cxU sp_check_Array [] 40 1048576) keeps 8 ⟨68, 19, keeps 68, 2⟩ 0 (bodyX 68 0) 2 kp_check_Array_68_0 (sT s_check_Array_68_0_0 (un_check_Array_68_0_0 x)) (sH s_check_Array_68_0_0 (un_check_Array_68_0_0 x)) (rdO (fun T h => (rdS s_check_Array_68_0_0 T h).map fl_check_Array_68_0_0) (getOr (getE 2 x_check_Array_68_0_0_0 fl_check_Array_68_0_0_0) (getE 1 x_check_Array_68_0_0_1 fl_check_Array_68_0_0_1))) = sx_check_Array_68_0_0 x := by kernel_rfl
noncomputable def L_check_Array_68_0_0 (x : X_check_Array_68_0_0) : Option (X_check_Array_68_0_0_0 ⊕ X_check_Array_68_0_0_1) := iterO (fun x => st_check_Array_68_0_0 x.1 x.2.1 x.2.2.1 x.2.2.2.1 x.2.2.2.2.1 x.2.2.2.2.2.1 x.2.2.2.2.2.2.1 x.2.2.2.2.2.2.2) FUEL x
noncomputable def q_check_Array_68_0 : Nat → Tm → Prog (Nat × Tm) := (varP 2 (fun T h => (rdS s_check_Array_68_0_0 T h).map fl_check_Array_68_0_0) L_check_Array_68_0_0 (fun y => .alt y (altE 2 x_check_Array_68_0_0_0 un_check_Array_68_0_0_0) (altE 1 x_check_Array_68_0_0_1 un_check_Array_68_0_0_1)) (fun _ _ => .fail))
noncomputable def lc_check_Array_68_0 : Lpc := ⟨68, 0, 19, (fun base T => .norm base (kp_check_Array_68_0 0) T (q_check_Array_68_0 base)), by kernel_rfl, by kernel_rfl, (loopU sp_check_Array [] 40 1048576 8 (keep := kp_check_Array_68_0) (q := q_check_Array_68_0) (by kernel_rfl) (varX_ok (s := s_check_Array_68_0_0) (un := un_check_Array_68_0_0) (by rfl) (fun _ => rfl) (getOr_ok (getE_ok (s := x_check_Array_68_0_0_0) (un := un_check_Array_68_0_0_0) (by rfl) (fun _ => rfl)) (getE_ok (s := x_check_Array_68_0_0_1) (un := un_check_Array_68_0_0_1) (by rfl) (fun _ => rfl))) (step := sx_check_Array_68_0_0) rn_check_Array_68_0_0 (fun _ _ e => ⟨_, e⟩) (altOr_ok (altE_ok 2 x_check_Array_68_0_0_0 un_check_Array_68_0_0_0) (altE_ok 1 x_check_Array_68_0_0_1 un_check_Array_68_0_0_1)) (VarOk.fail _ _)))⟩
noncomputable def g_check_Array (a0 : Pg) (a1 : ByteArray) : Option Int :=
  optC (L_check_Array_68_0_0 (a0.2.1, (↑(List.length a0.2.1) : Int), 0, a1, a0)) none fun d4 ↦ Sum.elim (fun e5 ↦ some (-1)) (fun e5 ↦ some e5.1) d4
theorem raw_check_Array (a0 : Pg) (a1 : ByteArray) : evGX (cxU sp_check_Array [lc_check_Array_68_0] 40 1048576) keeps 8 40 ash_check_Array (.dat (.int .i64)) ((a0, a1, ()) : (Pg × (ByteArray × Unit))) = g_check_Array a0 a1 := by kernel_rfl
noncomputable def G_check_Array (x : (Pg × (ByteArray × Unit))) : Option Int := g_check_Array x.1 x.2.1
noncomputable def con_check_Array : List AV → Prog AV := conP false ash_check_Array (.dat (.int .i64)) G_check_Array
theorem snd_check_Array : SoundA Tryd.prog 40 con_check_Array := conP_sound (calU sp_check_Array [lc_check_Array_68_0] 40 1048576 8 40) false (by rfl) (by rfl) (fun x r e => (evGX_eq _ _ _ _ _ _ _).trans ((raw_check_Array x.1 x.2.1).trans e)) (.inr fun _ => rfl)
end Go.Proofs.YtmjbedjnojcmfaaDoor.Ex

namespace Go.Proofs.YtmjbedjnojcmfaaDoor.Ex
open Go.Proofs Go.Proofs.YtmjbedjnojcmfaaDoor
set_option maxRecDepth 100000
set_option maxHeartbeats 2000000
set_option linter.unusedVariables false
set_option linter.unusedSimpArgs false
def ash_check_scope_expr : List Sh := [.dat (.st (.pair tPg tTh)), .dat tX]
def kp_check_scope_expr_96_0 : Nat → List Nat := fun c => bif c.beq 0 then [0, 1, 7, 8] else [4]
class Rec_check_scope_expr where
  K : ((Pg × Th) × (Xp × Unit)) → Option Bool
  s : SoundA Tryd.prog 39 (conP true ash_check_scope_expr (.dat .bool) K)
section
variable [Rec_check_scope_expr]
noncomputable def sp_check_scope_expr : List Con := [⟨38, con_check_scope_isVar, snd_check_scope_isVar⟩, ⟨40, con_check_Array, snd_check_Array⟩, ⟨39, (conP true ash_check_scope_expr (.dat .bool) Rec_check_scope_expr.K), Rec_check_scope_expr.s⟩]
def s_check_scope_expr_96_0_0 : StS := ⟨[(0, .sl (.mu 0)), (1, .clo 87 [] [.ptr 2 0]), (7, .int .i64), (8, .int .i64)], [(2, .box [.clo 39 [.agg [.sl tGb, .sl tGb, .sl .str, .sl tTh, .str, .sl .str, .sl (.mu 2)]] []]), (1, .box [.int .i64, .int .i64, .int .i64, .str, .sl (.mu 0)]), (0, .box [.sl tGb, .sl tGb, .sl .str, .sl tTh, .str, .sl .str, .sl (.mu 2)])], 3⟩
def x_check_scope_expr_96_0_0_0 : StS := ⟨[(4, .undef)], [(2, .box [.clo 39 [.agg [.sl tGb, .sl tGb, .sl .str, .sl tTh, .str, .sl .str, .sl (.mu 2)]] []]), (1, .box [.int .i64, .int .i64, .int .i64, .str, .sl (.mu 0)]), (0, .box [.sl tGb, .sl tGb, .sl .str, .sl tTh, .str, .sl .str, .sl (.mu 2)])], 3⟩
def x_check_scope_expr_96_0_0_1 : StS := ⟨[(4, .int .i64)], [(2, .box [.clo 39 [.agg [.sl tGb, .sl tGb, .sl .str, .sl tTh, .str, .sl .str, .sl (.mu 2)]] []]), (1, .box [.int .i64, .int .i64, .int .i64, .str, .sl (.mu 0)]), (0, .box [.sl tGb, .sl tGb, .sl .str, .sl tTh, .str, .sl .str, .sl (.mu 2)])], 3⟩
abbrev X_check_scope_expr_96_0_0 := ((List (RT.C 0)) × Int × Int × (List Gb) × (List Gb) × (List ByteArray) × (List Th) × ByteArray × (List ByteArray) × (List (RT.C 2)) × Int × Int × Int × ByteArray × (List (RT.C 0)) × (List Gb) × (List Gb) × (List ByteArray) × (List Th) × ByteArray × (List ByteArray) × (List (RT.C 2)))
def fl_check_scope_expr_96_0_0 (d : StD s_check_scope_expr_96_0_0) : X_check_scope_expr_96_0_0 := (d.1.1, d.1.2.2.1, d.1.2.2.2.1, d.2.1.1.1.1.1, d.2.1.1.1.1.2.1, d.2.1.1.1.1.2.2.1, d.2.1.1.1.1.2.2.2.1, d.2.1.1.1.1.2.2.2.2.1, d.2.1.1.1.1.2.2.2.2.2.1, d.2.1.1.1.1.2.2.2.2.2.2.1, d.2.2.1.1, d.2.2.1.2.1, d.2.2.1.2.2.1, d.2.2.1.2.2.2.1, d.2.2.1.2.2.2.2.1, d.2.2.2.1.1, d.2.2.2.1.2.1, d.2.2.2.1.2.2.1, d.2.2.2.1.2.2.2.1, d.2.2.2.1.2.2.2.2.1, d.2.2.2.1.2.2.2.2.2.1, d.2.2.2.1.2.2.2.2.2.2.1)
def un_check_scope_expr_96_0_0 (x : X_check_scope_expr_96_0_0) : StD s_check_scope_expr_96_0_0 := ((x.1, ((), ((), ())), x.2.1, x.2.2.1, ()), (((((x.2.2.2.1, x.2.2.2.2.1, x.2.2.2.2.2.1, x.2.2.2.2.2.2.1, x.2.2.2.2.2.2.2.1, x.2.2.2.2.2.2.2.2.1, x.2.2.2.2.2.2.2.2.2.1, ()), ()), ()), ()), (x.2.2.2.2.2.2.2.2.2.2.1, x.2.2.2.2.2.2.2.2.2.2.2.1, x.2.2.2.2.2.2.2.2.2.2.2.2.1, x.2.2.2.2.2.2.2.2.2.2.2.2.2.1, x.2.2.2.2.2.2.2.2.2.2.2.2.2.2.1, ()), (x.2.2.2.2.2.2.2.2.2.2.2.2.2.2.2.1, x.2.2.2.2.2.2.2.2.2.2.2.2.2.2.2.2.1, x.2.2.2.2.2.2.2.2.2.2.2.2.2.2.2.2.2.1, x.2.2.2.2.2.2.2.2.2.2.2.2.2.2.2.2.2.2.1, x.2.2.2.2.2.2.2.2.2.2.2.2.2.2.2.2.2.2.2.1, x.2.2.2.2.2.2.2.2.2.2.2.2.2.2.2.2.2.2.2.2.1, x.2.2.2.2.2.2.2.2.2.2.2.2.2.2.2.2.2.2.2.2.2, ()), ()))
abbrev X_check_scope_expr_96_0_0_0 := ((List Gb) × (List Gb) × (List ByteArray) × (List Th) × ByteArray × (List ByteArray) × (List (RT.C 2)) × Int × Int × Int × ByteArray × (List (RT.C 0)) × (List Gb) × (List Gb) × (List ByteArray) × (List Th) × ByteArray × (List ByteArray) × (List (RT.C 2)))
def fl_check_scope_expr_96_0_0_0 (d : StD x_check_scope_expr_96_0_0_0) : X_check_scope_expr_96_0_0_0 := (d.2.1.1.1.1.1, d.2.1.1.1.1.2.1, d.2.1.1.1.1.2.2.1, d.2.1.1.1.1.2.2.2.1, d.2.1.1.1.1.2.2.2.2.1, d.2.1.1.1.1.2.2.2.2.2.1, d.2.1.1.1.1.2.2.2.2.2.2.1, d.2.2.1.1, d.2.2.1.2.1, d.2.2.1.2.2.1, d.2.2.1.2.2.2.1, d.2.2.1.2.2.2.2.1, d.2.2.2.1.1, d.2.2.2.1.2.1, d.2.2.2.1.2.2.1, d.2.2.2.1.2.2.2.1, d.2.2.2.1.2.2.2.2.1, d.2.2.2.1.2.2.2.2.2.1, d.2.2.2.1.2.2.2.2.2.2.1)
def un_check_scope_expr_96_0_0_0 (x : X_check_scope_expr_96_0_0_0) : StD x_check_scope_expr_96_0_0_0 := (((), ()), (((((x.1, x.2.1, x.2.2.1, x.2.2.2.1, x.2.2.2.2.1, x.2.2.2.2.2.1, x.2.2.2.2.2.2.1, ()), ()), ()), ()), (x.2.2.2.2.2.2.2.1, x.2.2.2.2.2.2.2.2.1, x.2.2.2.2.2.2.2.2.2.1, x.2.2.2.2.2.2.2.2.2.2.1, x.2.2.2.2.2.2.2.2.2.2.2.1, ()), (x.2.2.2.2.2.2.2.2.2.2.2.2.1, x.2.2.2.2.2.2.2.2.2.2.2.2.2.1, x.2.2.2.2.2.2.2.2.2.2.2.2.2.2.1, x.2.2.2.2.2.2.2.2.2.2.2.2.2.2.2.1, x.2.2.2.2.2.2.2.2.2.2.2.2.2.2.2.2.1, x.2.2.2.2.2.2.2.2.2.2.2.2.2.2.2.2.2.1, x.2.2.2.2.2.2.2.2.2.2.2.2.2.2.2.2.2.2, ()), ()))
abbrev X_check_scope_expr_96_0_0_1 := (Int × (List Gb) × (List Gb) × (List ByteArray) × (List Th) × ByteArray × (List ByteArray) × (List (RT.C 2)) × Int × Int × Int × ByteArray × (List (RT.C 0)) × (List Gb) × (List Gb) × (List ByteArray) × (List Th) × ByteArray × (List ByteArray) × (List (RT.C 2)))
def fl_check_scope_expr_96_0_0_1 (d : StD x_check_scope_expr_96_0_0_1) : X_check_scope_expr_96_0_0_1 := (d.1.1, d.2.1.1.1.1.1, d.2.1.1.1.1.2.1, d.2.1.1.1.1.2.2.1, d.2.1.1.1.1.2.2.2.1, d.2.1.1.1.1.2.2.2.2.1, d.2.1.1.1.1.2.2.2.2.2.1, d.2.1.1.1.1.2.2.2.2.2.2.1, d.2.2.1.1, d.2.2.1.2.1, d.2.2.1.2.2.1, d.2.2.1.2.2.2.1, d.2.2.1.2.2.2.2.1, d.2.2.2.1.1, d.2.2.2.1.2.1, d.2.2.2.1.2.2.1, d.2.2.2.1.2.2.2.1, d.2.2.2.1.2.2.2.2.1, d.2.2.2.1.2.2.2.2.2.1, d.2.2.2.1.2.2.2.2.2.2.1)
def un_check_scope_expr_96_0_0_1 (x : X_check_scope_expr_96_0_0_1) : StD x_check_scope_expr_96_0_0_1 := ((x.1, ()), (((((x.2.1, x.2.2.1, x.2.2.2.1, x.2.2.2.2.1, x.2.2.2.2.2.1, x.2.2.2.2.2.2.1, x.2.2.2.2.2.2.2.1, ()), ()), ()), ()), (x.2.2.2.2.2.2.2.2.1, x.2.2.2.2.2.2.2.2.2.1, x.2.2.2.2.2.2.2.2.2.2.1, x.2.2.2.2.2.2.2.2.2.2.2.1, x.2.2.2.2.2.2.2.2.2.2.2.2.1, ()), (x.2.2.2.2.2.2.2.2.2.2.2.2.2.1, x.2.2.2.2.2.2.2.2.2.2.2.2.2.2.1, x.2.2.2.2.2.2.2.2.2.2.2.2.2.2.2.1, x.2.2.2.2.2.2.2.2.2.2.2.2.2.2.2.2.1, x.2.2.2.2.2.2.2.2.2.2.2.2.2.2.2.2.2.1, x.2.2.2.2.2.2.2.2.2.2.2.2.2.2.2.2.2.2.1, x.2.2.2.2.2.2.2.2.2.2.2.2.2.2.2.2.2.2.2, ()), ()))
noncomputable def st_check_scope_expr_96_0_0 (s0 : (List (RT.C 0))) (s7 : Int) (s8 : Int) (b2 : (List Gb)) (b2_1 : (List Gb)) (b2_2 : (List ByteArray)) (b2_3 : (List Th)) (b2_4 : ByteArray) (b2_5 : (List ByteArray)) (b2_6 : (List (RT.C 2))) (b1 : Int) (b1_1 : Int) (b1_2 : Int) (b1_3 : ByteArray) (b1_4 : (List (RT.C 0))) (b0 : (List Gb)) (b0_1 : (List Gb)) (b0_2 : (List ByteArray)) (b0_3 : (List Th)) (b0_4 : ByteArray) (b0_5 : (List ByteArray)) (b0_6 : (List (RT.C 2))) : Option (((List (RT.C 0)) × Int × Int × (List Gb) × (List Gb) × (List ByteArray) × (List Th) × ByteArray × (List ByteArray) × (List (RT.C 2)) × Int × Int × Int × ByteArray × (List (RT.C 0)) × (List Gb) × (List Gb) × (List ByteArray) × (List Th) × ByteArray × (List ByteArray) × (List (RT.C 2))) ⊕ (((List Gb) × (List Gb) × (List ByteArray) × (List Th) × ByteArray × (List ByteArray) × (List (RT.C 2)) × Int × Int × Int × ByteArray × (List (RT.C 0)) × (List Gb) × (List Gb) × (List ByteArray) × (List Th) × ByteArray × (List ByteArray) × (List (RT.C 2))) ⊕ (Int × (List Gb) × (List Gb) × (List ByteArray) × (List Th) × ByteArray × (List ByteArray) × (List (RT.C 2)) × Int × Int × Int × ByteArray × (List (RT.C 0)) × (List Gb) × (List Gb) × (List ByteArray) × (List Th) × ByteArray × (List ByteArray) × (List (RT.C 2))))) :=
  bif decide (s8 < s7) then
 bif decide (0 ≤ s8) then
 optC s0[s8.toNat]? none fun d25 ↦
 optC (Rec_check_scope_expr.K (((b2, b2_1, b2_2, b2_3), b2_4, b2_5, b2_6), uT0 d25, ())) none fun d26 ↦
 bif !d26 then some (Sum.inr (Sum.inr (s8, b2, b2_1, b2_2, b2_3, b2_4, b2_5, b2_6, b1, b1_1, b1_2, b1_3, b1_4, b0, b0_1, b0_2, b0_3, b0_4, b0_5, b0_6)))
 else some (Sum.inl (s0, s7, Go.IntKind.i64.wrap (s8 + 1), b2, b2_1, b2_2, b2_3, b2_4, b2_5, b2_6, b1, b1_1, b1_2, b1_3, b1_4, b0, b0_1, b0_2, b0_3, b0_4, b0_5, b0_6))
 else none
 else some (Sum.inr (Sum.inl (b2, b2_1, b2_2, b2_3, b2_4, b2_5, b2_6, b1, b1_1, b1_2, b1_3, b1_4, b0, b0_1, b0_2, b0_3, b0_4, b0_5, b0_6)))
noncomputable def sx_check_scope_expr_96_0_0 (x : X_check_scope_expr_96_0_0) : Option (X_check_scope_expr_96_0_0 ⊕ (X_check_scope_expr_96_0_0_0 ⊕ X_check_scope_expr_96_0_0_1)) := st_check_scope_expr_96_0_0 x.1 x.2.1 x.2.2.1 x.2.2.2.1 x.2.2.2.2.1 x.2.2.2.2.2.1 x.2.2.2.2.2.2.1 x.2.2.2.2.2.2.2.1 x.2.2.2.2.2.2.2.2.1 x.2.2.2.2.2.2.2.2.2.1 x.2.2.2.2.2.2.2.2.2.2.1 x.2.2.2.2.2.2.2.2.2.2.2.1 x.2.2.2.2.2.2.2.2.2.2.2.2.1 x.2.2.2.2.2.2.2.2.2.2.2.2.2.1 x.2.2.2.2.2.2.2.2.2.2.2.2.2.2.1 x.2.2.2.2.2.2.2.2.2.2.2.2.2.2.2.1 x.2.2.2.2.2.2.2.2.2.2.2.2.2.2.2.2.1 x.2.2.2.2.2.2.2.2.2.2.2.2.2.2.2.2.2.1 x.2.2.2.2.2.2.2.2.2.2.2.2.2.2.2.2.2.2.1 x.2.2.2.2.2.2.2.2.2.2.2.2.2.2.2.2.2.2.2.1 x.2.2.2.2.2.2.2.2.2.2.2.2.2.2.2.2.2.2.2.2.1 x.2.2.2.2.2.2.2.2.2.2.2.2.2.2.2.2.2.2.2.2.2
theorem rn_check_scope_expr_96_0_0 (x : X_check_scope_expr_96_0_0) : rdX (cxU sp_check_scope_expr [] 40 (1048576 ^ 9)) keeps 8 ⟨96, 19, keeps 96, 3⟩ 0 (bodyX 96 0) 3 kp_check_scope_expr_96_0 (sT s_check_scope_expr_96_0_0 (un_check_scope_expr_96_0_0 x)) (sH s_check_scope_expr_96_0_0 (un_check_scope_expr_96_0_0 x)) (rdO (fun T h => (rdS s_check_scope_expr_96_0_0 T h).map fl_check_scope_expr_96_0_0) (getOr (getE 2 x_check_scope_expr_96_0_0_0 fl_check_scope_expr_96_0_0_0) (getE 1 x_check_scope_expr_96_0_0_1 fl_check_scope_expr_96_0_0_1))) = sx_check_scope_expr_96_0_0 x := by kernel_rfl
noncomputable def L_check_scope_expr_96_0_0 (x : X_check_scope_expr_96_0_0) : Option (X_check_scope_expr_96_0_0_0 ⊕ X_check_scope_expr_96_0_0_1) := iterO (fun x => st_check_scope_expr_96_0_0 x.1 x.2.1 x.2.2.1 x.2.2.2.1 x.2.2.2.2.1 x.2.2.2.2.2.1 x.2.2.2.2.2.2.1 x.2.2.2.2.2.2.2.1 x.2.2.2.2.2.2.2.2.1 x.2.2.2.2.2.2.2.2.2.1 x.2.2.2.2.2.2.2.2.2.2.1 x.2.2.2.2.2.2.2.2.2.2.2.1 x.2.2.2.2.2.2.2.2.2.2.2.2.1 x.2.2.2.2.2.2.2.2.2.2.2.2.2.1 x.2.2.2.2.2.2.2.2.2.2.2.2.2.2.1 x.2.2.2.2.2.2.2.2.2.2.2.2.2.2.2.1 x.2.2.2.2.2.2.2.2.2.2.2.2.2.2.2.2.1 x.2.2.2.2.2.2.2.2.2.2.2.2.2.2.2.2.2.1 x.2.2.2.2.2.2.2.2.2.2.2.2.2.2.2.2.2.2.1 x.2.2.2.2.2.2.2.2.2.2.2.2.2.2.2.2.2.2.2.1 x.2.2.2.2.2.2.2.2.2.2.2.2.2.2.2.2.2.2.2.2.1 x.2.2.2.2.2.2.2.2.2.2.2.2.2.2.2.2.2.2.2.2.2) FUEL x
noncomputable def q_check_scope_expr_96_0 : Nat → Tm → Prog (Nat × Tm) := (varP 3 (fun T h => (rdS s_check_scope_expr_96_0_0 T h).map fl_check_scope_expr_96_0_0) L_check_scope_expr_96_0_0 (fun y => .alt y (altE 2 x_check_scope_expr_96_0_0_0 un_check_scope_expr_96_0_0_0) (altE 1 x_check_scope_expr_96_0_0_1 un_check_scope_expr_96_0_0_1)) (fun _ _ => .fail))
noncomputable def lc_check_scope_expr_96_0 : Lpc := ⟨96, 0, 19, (fun base T => .norm base (kp_check_scope_expr_96_0 0) T (q_check_scope_expr_96_0 base)), by kernel_rfl, by kernel_rfl, (loopU sp_check_scope_expr [] 40 (1048576 ^ 9) 8 (keep := kp_check_scope_expr_96_0) (q := q_check_scope_expr_96_0) (by kernel_rfl) (varX_ok (s := s_check_scope_expr_96_0_0) (un := un_check_scope_expr_96_0_0) (by rfl) (fun _ => rfl) (getOr_ok (getE_ok (s := x_check_scope_expr_96_0_0_0) (un := un_check_scope_expr_96_0_0_0) (by rfl) (fun _ => rfl)) (getE_ok (s := x_check_scope_expr_96_0_0_1) (un := un_check_scope_expr_96_0_0_1) (by rfl) (fun _ => rfl))) (step := sx_check_scope_expr_96_0_0) rn_check_scope_expr_96_0_0 (fun _ _ e => ⟨_, e⟩) (altOr_ok (altE_ok 2 x_check_scope_expr_96_0_0_0 un_check_scope_expr_96_0_0_0) (altE_ok 1 x_check_scope_expr_96_0_0_1 un_check_scope_expr_96_0_0_1)) (VarOk.fail _ _)))⟩
noncomputable def g_check_scope_expr (a0 : (Pg × Th)) (a1 : Xp) : Option Bool :=
  bif a1.1 != 2 then
 bif a1.1 != 3 then
 optC
 (L_check_scope_expr_96_0_0
 (a1.2.2.2.2, (↑(List.length a1.2.2.2.2) : Int), 0, a0.1.1, a0.1.2.1, a0.1.2.2.1, a0.1.2.2.2, a0.2.1, a0.2.2.1, a0.2.2.2, a1.1,
 a1.2.1, a1.2.2.1, a1.2.2.2.1, a1.2.2.2.2, a0.1.1, a0.1.2.1, a0.1.2.2.1, a0.1.2.2.2, a0.2))
 none fun d5 ↦ Sum.elim (fun e6 ↦ some !decide (-1 ≥ 0)) (fun e6 ↦ some !decide (e6.1 ≥ 0)) d5
 else
 optC (G_check_Array (a0.1, a1.2.2.2.1, ())) none fun d5 ↦
 bif decide (d5 ≥ 0) then
 optC
 (L_check_scope_expr_96_0_0
 (a1.2.2.2.2, (↑(List.length a1.2.2.2.2) : Int), 0, a0.1.1, a0.1.2.1, a0.1.2.2.1, a0.1.2.2.2, a0.2.1, a0.2.2.1, a0.2.2.2, a1.1,
 a1.2.1, a1.2.2.1, a1.2.2.2.1, a1.2.2.2.2, a0.1.1, a0.1.2.1, a0.1.2.2.1, a0.1.2.2.2, a0.2))
 none fun d6 ↦ Sum.elim (fun e7 ↦ some !decide (-1 ≥ 0)) (fun e7 ↦ some !decide (e7.1 ≥ 0)) d6
 else some false
 else
 optC (G_check_scope_isVar (a0, a1.2.2.2.1, ())) none fun d5 ↦
 bif d5 then
 bif a1.1 != 3 then
 optC
 (L_check_scope_expr_96_0_0
 (a1.2.2.2.2, (↑(List.length a1.2.2.2.2) : Int), 0, a0.1.1, a0.1.2.1, a0.1.2.2.1, a0.1.2.2.2, a0.2.1, a0.2.2.1, a0.2.2.2, a1.1,
 a1.2.1, a1.2.2.1, a1.2.2.2.1, a1.2.2.2.2, a0.1.1, a0.1.2.1, a0.1.2.2.1, a0.1.2.2.2, a0.2))
 none fun d6 ↦ Sum.elim (fun e7 ↦ some !decide (-1 ≥ 0)) (fun e7 ↦ some !decide (e7.1 ≥ 0)) d6
 else
 optC (G_check_Array (a0.1, a1.2.2.2.1, ())) none fun d6 ↦
 bif decide (d6 ≥ 0) then
 optC
 (L_check_scope_expr_96_0_0
 (a1.2.2.2.2, (↑(List.length a1.2.2.2.2) : Int), 0, a0.1.1, a0.1.2.1, a0.1.2.2.1, a0.1.2.2.2, a0.2.1, a0.2.2.1, a0.2.2.2,
 a1.1, a1.2.1, a1.2.2.1, a1.2.2.2.1, a1.2.2.2.2, a0.1.1, a0.1.2.1, a0.1.2.2.1, a0.1.2.2.2, a0.2))
 none fun d7 ↦ Sum.elim (fun e8 ↦ some !decide (-1 ≥ 0)) (fun e8 ↦ some !decide (e8.1 ≥ 0)) d7
 else some false
 else some false
theorem raw_check_scope_expr (a0 : (Pg × Th)) (a1 : Xp) : evGX1 (cxU sp_check_scope_expr [lc_check_scope_expr_96_0] 40 (1048576 ^ 9)) keeps 8 39 ash_check_scope_expr (.dat .bool) ((a0, a1, ()) : ((Pg × Th) × (Xp × Unit))) = g_check_scope_expr a0 a1 := by kernel_rfl
noncomputable def GI_check_scope_expr (x : ((Pg × Th) × (Xp × Unit))) : Option Bool := g_check_scope_expr x.1 x.2.1
noncomputable def conI_check_scope_expr : List AV → Prog AV := conP true ash_check_scope_expr (.dat .bool) GI_check_scope_expr
theorem sndI_check_scope_expr : SoundA Tryd.prog 39 conI_check_scope_expr := conP_sound (evF1_sound (tabOk_of tab_ok) (cmpsOk_of tab_ok cmps_ok) mixed (inU sp_check_scope_expr [lc_check_scope_expr_96_0] 40 (1048576 ^ 9)) (hspL sp_check_scope_expr) keeps 8 39) true (by rfl) (by rfl) (fun x r e => (evGX1_eq _ _ _ _ _ _ _).trans ((raw_check_scope_expr x.1 x.2.1).trans e)) (.inl rfl)
end
noncomputable def it_check_scope_expr : Nat → {K : ((Pg × Th) × (Xp × Unit)) → Option Bool // SoundA Tryd.prog 39 (conP true ash_check_scope_expr (.dat .bool) K)}
  | 0 => ⟨fun _ => none, conP_none⟩
  | k + 1 => letI : Rec_check_scope_expr := ⟨(it_check_scope_expr k).1, (it_check_scope_expr k).2⟩; ⟨GI_check_scope_expr, sndI_check_scope_expr⟩
noncomputable def G_check_scope_expr (x : ((Pg × Th) × (Xp × Unit))) : Option Bool := (it_check_scope_expr (SizeOf.sizeOf x + 1)).1 x
noncomputable def con_check_scope_expr : List AV → Prog AV := conP true ash_check_scope_expr (.dat .bool) G_check_scope_expr
theorem snd_check_scope_expr : SoundA Tryd.prog 39 con_check_scope_expr := conP_pick (sh := ash_check_scope_expr) (rs := .dat .bool) (n := fun x : ((Pg × Th) × (Xp × Unit)) => SizeOf.sizeOf x + 1) (F := fun k => (it_check_scope_expr k).1) (fun k => (it_check_scope_expr k).2)
end Go.Proofs.YtmjbedjnojcmfaaDoor.Ex

namespace Go.Proofs.YtmjbedjnojcmfaaDoor.Ex
open Go.Proofs Go.Proofs.YtmjbedjnojcmfaaDoor
set_option maxRecDepth 100000
set_option maxHeartbeats 2000000
set_option linter.unusedVariables false
set_option linter.unusedSimpArgs false
def ash_check_Mutex : List Sh := [.dat tPg, .dat .str]
noncomputable def sp_check_Mutex : List Con := [⟨42, con_check_place, snd_check_place⟩]
noncomputable def g_check_Mutex (a0 : Pg) (a1 : ByteArray) : Option Int :=
  optC (G_check_place (a1, a0.2.2.1, ())) none fun d3 ↦ some d3
theorem raw_check_Mutex (a0 : Pg) (a1 : ByteArray) : evGX (cxU sp_check_Mutex [] 40 1048576) keeps 8 17 ash_check_Mutex (.dat (.int .i64)) ((a0, a1, ()) : (Pg × (ByteArray × Unit))) = g_check_Mutex a0 a1 := by kernel_rfl
noncomputable def G_check_Mutex (x : (Pg × (ByteArray × Unit))) : Option Int := g_check_Mutex x.1 x.2.1
noncomputable def con_check_Mutex : List AV → Prog AV := conP false ash_check_Mutex (.dat (.int .i64)) G_check_Mutex
theorem snd_check_Mutex : SoundA Tryd.prog 17 con_check_Mutex := conP_sound (calU sp_check_Mutex [] 40 1048576 8 17) false (by rfl) (by rfl) (fun x r e => (evGX_eq _ _ _ _ _ _ _).trans ((raw_check_Mutex x.1 x.2.1).trans e)) (.inr fun _ => rfl)
end Go.Proofs.YtmjbedjnojcmfaaDoor.Ex

