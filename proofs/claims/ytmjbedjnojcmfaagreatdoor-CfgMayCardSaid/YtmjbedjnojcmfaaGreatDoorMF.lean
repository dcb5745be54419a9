/- A part of the proofs of which programs may be: MF. -/
import Derived.Test.YtmjbedjnojcmfaaGreatDoorMD
import Derived.Test.YtmjbedjnojcmfaaGreatDoorRows
import Derived.Test.YtmjbedjnojcmfaaGreatDoorME
import Derived.Test.YtmjbedjnojcmfaaGreatDoorMA
import Derived.Test.YtmjbedjnojcmfaaGreatDoorMC
import Derived.Shelf.Sort.Plain
import Derived.Shelf.Slices.CompactI
import Derived.Shelf.Slices.In.SortNone
namespace Go.Proofs.YtmjbedjnojcmfaaGreatDoor.Ex
open Go.Proofs Go.Proofs.YtmjbedjnojcmfaaGreatDoor
set_option maxHeartbeats 4000000
set_option maxRecDepth 100000
inductive T0 where
  | mk (x : (Int × (Int × (Int × (ByteArray × (List T0))))))
inductive T1 where
  | mk (x : (Int × (Int × ((List T0) × (List T1)))))
inductive T2 where
  | mk (x : (Int × (ByteArray × ((Int × (Int × (Int × (ByteArray × (List T0))))) × ((Int × (Int × (Int × (ByteArray × (List T0))))) × ((Int × (Int × ((List T0) × (List T1)))) × ((List T2) × (List T2))))))))
abbrev TC : Nat → Type
  | 0 => T0
  | 1 => T1
  | 2 => T2
  | _ => Bool
abbrev TB : Nat → Ty
  | 0 => (.st (.pair (.int .i64) (.pair (.int .i64) (.pair (.int .i64) (.pair .str (.sl (.mu 0)))))))
  | 1 => (.st (.pair (.int .i64) (.pair (.int .i64) (.pair (.sl (.mu 0)) (.sl (.mu 1))))))
  | 2 => (.st (.pair (.int .i64) (.pair .str (.pair (.st (.pair (.int .i64) (.pair (.int .i64) (.pair (.int .i64) (.pair .str (.sl (.mu 0))))))) (.pair (.st (.pair (.int .i64) (.pair (.int .i64) (.pair (.int .i64) (.pair .str (.sl (.mu 0))))))) (.pair (.st (.pair (.int .i64) (.pair (.int .i64) (.pair (.sl (.mu 0)) (.sl (.mu 1)))))) (.pair (.sl (.mu 2)) (.sl (.mu 2)))))))))
  | _ => .bool
def trU : (n : Nat) → TC n → Den TC (TB n)
  | 0, x => match x with | .mk y => y
  | 1, x => match x with | .mk y => y
  | 2, x => match x with | .mk y => y
  | _ + 3, x => x
def trF : (n : Nat) → Den TC (TB n) → TC n
  | 0, x => T0.mk x
  | 1, x => T1.mk x
  | 2, x => T2.mk x
  | _ + 3, x => x
instance rt0 : RT := {
  C := TC
  body := TB
  unf := trU
  fld := trF
  uf := fun n x => match n, x with | 0, _ => rfl | 1, _ => rfl | 2, _ => rfl | _ + 3, _ => rfl
  fu := fun n x => match n, x with | 0, .mk _ => rfl | 1, .mk _ => rfl | 2, .mk _ => rfl | _ + 3, _ => rfl }
def tab : List (TypeId × TInfo) := [
  (1, ⟨(.mu 1000), 8, 0, [], false⟩),
  (3, ⟨(.int .i64), 8, 0, [], false⟩),
  (4, ⟨.bool, 1, 0, [], false⟩),
  (5, ⟨(.int .u8), 1, 0, [], false⟩),
  (9, ⟨.str, 16, 0, [], false⟩),
  (12, ⟨(.int .u64), 8, 0, [], false⟩),
  (22, ⟨(.sl (.st (.pair .str (.int .i64)))), 24, 58, [], false⟩),
  (23, ⟨(.sl (.st (.pair .str (.int .i64)))), 24, 60, [], false⟩),
  (24, ⟨(.sl .str), 24, 9, [], false⟩),
  (25, ⟨(.sl (.st (.pair .str (.pair (.sl .str) (.sl (.mu 2)))))), 24, 31, [], false⟩),
  (26, ⟨(.st (.pair (.sl (.st (.pair .str (.int .i64)))) (.pair (.sl (.st (.pair .str (.int .i64)))) (.pair (.sl .str) (.sl (.st (.pair .str (.pair (.sl .str) (.sl (.mu 2)))))))))), 96, 0, [(0, 1), (1, 1), (2, 1), (3, 1)], false⟩),
  (27, ⟨(.st (.pair (.sl (.st (.pair .str (.int .i64)))) (.pair (.sl (.st (.pair .str (.int .i64)))) (.pair (.sl .str) (.sl (.st (.pair .str (.pair (.sl .str) (.sl (.mu 2)))))))))), 96, 0, [(0, 1), (1, 1), (2, 1), (3, 1)], false⟩),
  (28, ⟨(.mu 1000), 8, 0, [], false⟩),
  (29, ⟨(.sl (.mu 2)), 24, 73, [], false⟩),
  (30, ⟨(.st (.pair .str (.pair (.sl .str) (.sl (.mu 2))))), 64, 0, [(0, 1), (1, 1), (2, 1)], false⟩),
  (31, ⟨(.st (.pair .str (.pair (.sl .str) (.sl (.mu 2))))), 64, 0, [(0, 1), (1, 1), (2, 1)], false⟩),
  (32, ⟨(.mu 1000), 8, 0, [], false⟩),
  (33, ⟨(.int .i64), 8, 0, [], false⟩),
  (34, ⟨(.mu 1000), 8, 0, [], false⟩),
  (35, ⟨(.mu 1000), 8, 0, [], false⟩),
  (36, ⟨(.mu 1000), 8, 0, [], false⟩),
  (37, ⟨(.mu 1000), 8, 0, [], false⟩),
  (38, ⟨(.mu 1000), 8, 0, [], false⟩),
  (39, ⟨(.sl (.int .i64)), 24, 3, [], false⟩),
  (40, ⟨(.sl (.st (.pair (.int .i64) (.sl (.st (.pair (.int .i64) (.pair (.int .i64) (.pair (.int .i64) (.pair (.int .i64) (.pair (.int .i64) (.pair (.int .i64) (.pair (.int .i64) (.pair (.int .i64) (.int .i64)))))))))))))), 24, 52, [], false⟩),
  (41, ⟨(.st (.pair (.sl (.int .i64)) (.pair (.sl (.int .i64)) (.pair (.int .i64) (.sl (.st (.pair (.int .i64) (.sl (.st (.pair (.int .i64) (.pair (.int .i64) (.pair (.int .i64) (.pair (.int .i64) (.pair (.int .i64) (.pair (.int .i64) (.pair (.int .i64) (.pair (.int .i64) (.int .i64)))))))))))))))))), 80, 0, [(0, 1), (1, 1), (2, 1), (3, 1)], false⟩),
  (42, ⟨(.st (.pair (.sl (.int .i64)) (.pair (.sl (.int .i64)) (.pair (.int .i64) (.sl (.st (.pair (.int .i64) (.sl (.st (.pair (.int .i64) (.pair (.int .i64) (.pair (.int .i64) (.pair (.int .i64) (.pair (.int .i64) (.pair (.int .i64) (.pair (.int .i64) (.pair (.int .i64) (.int .i64)))))))))))))))))), 80, 0, [(0, 1), (1, 1), (2, 1), (3, 1)], false⟩),
  (44, ⟨(.mu 1000), 8, 0, [], false⟩),
  (46, ⟨(.mu 1000), 8, 0, [], false⟩),
  (47, ⟨(.mu 1000), 8, 0, [], false⟩),
  (48, ⟨(.mu 1000), 8, 0, [], false⟩),
  (49, ⟨(.mu 1000), 8, 0, [], false⟩),
  (50, ⟨(.sl (.st (.pair (.int .i64) (.pair (.int .i64) (.pair (.int .i64) (.pair (.int .i64) (.pair (.int .i64) (.pair (.int .i64) (.pair (.int .i64) (.pair (.int .i64) (.int .i64))))))))))), 24, 54, [], false⟩),
  (51, ⟨(.st (.pair (.int .i64) (.sl (.st (.pair (.int .i64) (.pair (.int .i64) (.pair (.int .i64) (.pair (.int .i64) (.pair (.int .i64) (.pair (.int .i64) (.pair (.int .i64) (.pair (.int .i64) (.int .i64))))))))))))), 32, 0, [(0, 1), (1, 1)], false⟩),
  (52, ⟨(.st (.pair (.int .i64) (.sl (.st (.pair (.int .i64) (.pair (.int .i64) (.pair (.int .i64) (.pair (.int .i64) (.pair (.int .i64) (.pair (.int .i64) (.pair (.int .i64) (.pair (.int .i64) (.int .i64))))))))))))), 32, 0, [(0, 1), (1, 1)], false⟩),
  (53, ⟨(.st (.pair (.int .i64) (.pair (.int .i64) (.pair (.int .i64) (.pair (.int .i64) (.pair (.int .i64) (.pair (.int .i64) (.pair (.int .i64) (.pair (.int .i64) (.int .i64)))))))))), 72, 0, [(0, 1), (1, 1), (2, 1), (3, 1), (4, 1), (5, 1), (6, 1), (7, 1), (8, 1)], true⟩),
  (54, ⟨(.st (.pair (.int .i64) (.pair (.int .i64) (.pair (.int .i64) (.pair (.int .i64) (.pair (.int .i64) (.pair (.int .i64) (.pair (.int .i64) (.pair (.int .i64) (.int .i64)))))))))), 72, 0, [(0, 1), (1, 1), (2, 1), (3, 1), (4, 1), (5, 1), (6, 1), (7, 1), (8, 1)], true⟩),
  (55, ⟨(.mu 1000), 8, 0, [], false⟩),
  (56, ⟨(.mu 1000), 8, 0, [], false⟩),
  (57, ⟨(.st (.pair .str (.int .i64))), 24, 0, [(0, 1), (1, 1)], true⟩),
  (58, ⟨(.st (.pair .str (.int .i64))), 24, 0, [(0, 1), (1, 1)], true⟩),
  (59, ⟨(.st (.pair .str (.int .i64))), 24, 0, [(0, 1), (1, 1)], true⟩),
  (60, ⟨(.st (.pair .str (.int .i64))), 24, 0, [(0, 1), (1, 1)], true⟩),
  (61, ⟨(.mu 1000), 8, 0, [], false⟩),
  (62, ⟨(.mu 1000), 8, 0, [], false⟩),
  (63, ⟨(.mu 1000), 8, 0, [], false⟩),
  (64, ⟨(.mu 1000), 8, 0, [], false⟩),
  (65, ⟨(.mu 1000), 8, 0, [], false⟩),
  (66, ⟨(.sl (.mu 0)), 24, 68, [], false⟩),
  (67, ⟨(.st (.pair (.int .i64) (.pair (.int .i64) (.pair (.int .i64) (.pair .str (.sl (.mu 0))))))), 64, 0, [(0, 1), (1, 1), (2, 1), (3, 1), (4, 1)], false⟩),
  (68, ⟨(.st (.pair (.int .i64) (.pair (.int .i64) (.pair (.int .i64) (.pair .str (.sl (.mu 0))))))), 64, 0, [(0, 1), (1, 1), (2, 1), (3, 1), (4, 1)], false⟩),
  (69, ⟨(.sl (.mu 1)), 24, 71, [], false⟩),
  (70, ⟨(.st (.pair (.int .i64) (.pair (.int .i64) (.pair (.sl (.mu 0)) (.sl (.mu 1)))))), 64, 0, [(0, 1), (1, 1), (2, 1), (3, 1)], false⟩),
  (71, ⟨(.st (.pair (.int .i64) (.pair (.int .i64) (.pair (.sl (.mu 0)) (.sl (.mu 1)))))), 64, 0, [(0, 1), (1, 1), (2, 1), (3, 1)], false⟩),
  (72, ⟨(.st (.pair (.int .i64) (.pair .str (.pair (.st (.pair (.int .i64) (.pair (.int .i64) (.pair (.int .i64) (.pair .str (.sl (.mu 0))))))) (.pair (.st (.pair (.int .i64) (.pair (.int .i64) (.pair (.int .i64) (.pair .str (.sl (.mu 0))))))) (.pair (.st (.pair (.int .i64) (.pair (.int .i64) (.pair (.sl (.mu 0)) (.sl (.mu 1)))))) (.pair (.sl (.mu 2)) (.sl (.mu 2))))))))), 264, 0, [(0, 1), (1, 1), (2, 5), (7, 5), (12, 4), (16, 1), (17, 1)], false⟩),
  (73, ⟨(.st (.pair (.int .i64) (.pair .str (.pair (.st (.pair (.int .i64) (.pair (.int .i64) (.pair (.int .i64) (.pair .str (.sl (.mu 0))))))) (.pair (.st (.pair (.int .i64) (.pair (.int .i64) (.pair (.int .i64) (.pair .str (.sl (.mu 0))))))) (.pair (.st (.pair (.int .i64) (.pair (.int .i64) (.pair (.sl (.mu 0)) (.sl (.mu 1)))))) (.pair (.sl (.mu 2)) (.sl (.mu 2))))))))), 264, 0, [(0, 1), (1, 1), (2, 5), (7, 5), (12, 4), (16, 1), (17, 1)], false⟩),
  (74, ⟨(.mu 1000), 8, 0, [], false⟩),
  (75, ⟨(.st (.pair (.st (.pair (.sl (.st (.pair .str (.int .i64)))) (.pair (.sl (.st (.pair .str (.int .i64)))) (.pair (.sl .str) (.sl (.st (.pair .str (.pair (.sl .str) (.sl (.mu 2)))))))))) (.st (.pair .str (.pair (.sl .str) (.sl (.mu 2))))))), 160, 0, [(0, 4), (4, 3)], false⟩),
  (76, ⟨(.st (.pair (.st (.pair (.sl (.st (.pair .str (.int .i64)))) (.pair (.sl (.st (.pair .str (.int .i64)))) (.pair (.sl .str) (.sl (.st (.pair .str (.pair (.sl .str) (.sl (.mu 2)))))))))) (.st (.pair .str (.pair (.sl .str) (.sl (.mu 2))))))), 160, 0, [(0, 4), (4, 3)], false⟩),
  (77, ⟨(.mu 1000), 8, 0, [], false⟩),
  (78, ⟨(.mu 1000), 8, 0, [], false⟩),
  (79, ⟨(.mu 1000), 8, 0, [], false⟩),
  (80, ⟨(.mu 1000), 8, 0, [], false⟩),
  (81, ⟨(.mu 1000), 8, 0, [], false⟩),
  (82, ⟨(.mu 1000), 8, 0, [], false⟩),
  (84, ⟨(.mu 1000), 8, 0, [], false⟩),
  (86, ⟨(.st (.pair (.st (.pair (.sl (.st (.pair .str (.int .i64)))) (.pair (.sl (.st (.pair .str (.int .i64)))) (.pair (.sl .str) (.sl (.st (.pair .str (.pair (.sl .str) (.sl (.mu 2)))))))))) (.pair (.st (.pair .str (.pair (.sl .str) (.sl (.mu 2))))) (.pair (.int .i64) (.sl (.st (.pair (.int .i64) (.pair (.int .i64) (.pair (.int .i64) (.pair (.int .i64) (.pair (.int .i64) (.pair (.int .i64) (.pair (.int .i64) (.pair (.int .i64) (.int .i64))))))))))))))), 192, 0, [(0, 4), (4, 3), (7, 1), (8, 1)], false⟩),
  (87, ⟨(.st (.pair (.st (.pair (.sl (.st (.pair .str (.int .i64)))) (.pair (.sl (.st (.pair .str (.int .i64)))) (.pair (.sl .str) (.sl (.st (.pair .str (.pair (.sl .str) (.sl (.mu 2)))))))))) (.pair (.st (.pair .str (.pair (.sl .str) (.sl (.mu 2))))) (.pair (.int .i64) (.sl (.st (.pair (.int .i64) (.pair (.int .i64) (.pair (.int .i64) (.pair (.int .i64) (.pair (.int .i64) (.pair (.int .i64) (.pair (.int .i64) (.pair (.int .i64) (.int .i64))))))))))))))), 192, 0, [(0, 4), (4, 3), (7, 1), (8, 1)], false⟩),
  (88, ⟨(.mu 1000), 8, 0, [], false⟩),
  (89, ⟨(.mu 1000), 8, 0, [], false⟩),
  (90, ⟨(.mu 1000), 8, 0, [], false⟩),
  (91, ⟨(.mu 1000), 8, 0, [], false⟩),
  (92, ⟨(.mu 1000), 8, 0, [], false⟩),
  (93, ⟨(.mu 1000), 8, 0, [], false⟩),
  (94, ⟨(.mu 1000), 8, 0, [], false⟩),
  (95, ⟨(.mu 1000), 8, 0, [], false⟩),
  (96, ⟨(.mu 1000), 8, 0, [], false⟩),
  (97, ⟨(.mu 1000), 8, 0, [], false⟩),
  (98, ⟨(.mu 1000), 8, 0, [], false⟩),
  (99, ⟨(.mu 1000), 8, 0, [], false⟩),
  (100, ⟨(.mu 1000), 8, 0, [], false⟩),
  (101, ⟨(.mu 1000), 8, 0, [], false⟩),
  (102, ⟨(.mu 1000), 8, 0, [], false⟩),
  (103, ⟨(.mu 1000), 8, 0, [], false⟩),
  (104, ⟨(.mu 1000), 8, 0, [], false⟩),
  (105, ⟨(.mu 1000), 8, 0, [], false⟩),
  (106, ⟨(.mu 1000), 8, 0, [], false⟩),
  (107, ⟨(.mu 1000), 8, 0, [], false⟩),
  (108, ⟨(.mu 1000), 8, 0, [], false⟩),
  (109, ⟨(.mu 1000), 8, 0, [], false⟩),
  (110, ⟨(.mu 1000), 8, 0, [], false⟩),
  (111, ⟨(.mu 1000), 8, 0, [], false⟩),
  (112, ⟨(.mu 1000), 8, 0, [], false⟩),
  (113, ⟨(.mu 1000), 8, 0, [], false⟩),
  (114, ⟨(.mu 1000), 8, 0, [], false⟩),
  (115, ⟨(.mu 1000), 8, 0, [], false⟩),
  (116, ⟨(.mu 1000), 8, 0, [], false⟩),
  (117, ⟨(.mu 1000), 8, 0, [], false⟩),
  (118, ⟨(.mu 1000), 8, 0, [], false⟩),
  (120, ⟨(.st (.st (.pair (.int .i64) (.sl (.st (.pair (.int .i64) (.pair (.int .i64) (.pair (.int .i64) (.pair (.int .i64) (.pair (.int .i64) (.pair (.int .i64) (.pair (.int .i64) (.pair (.int .i64) (.int .i64)))))))))))))), 32, 0, [(0, 2)], false⟩),
  (121, ⟨(.st (.st (.pair (.int .i64) (.sl (.st (.pair (.int .i64) (.pair (.int .i64) (.pair (.int .i64) (.pair (.int .i64) (.pair (.int .i64) (.pair (.int .i64) (.pair (.int .i64) (.pair (.int .i64) (.int .i64)))))))))))))), 32, 0, [(0, 2)], false⟩),
  (122, ⟨(.st (.pair (.st (.st (.pair (.int .i64) (.sl (.st (.pair (.int .i64) (.pair (.int .i64) (.pair (.int .i64) (.pair (.int .i64) (.pair (.int .i64) (.pair (.int .i64) (.pair (.int .i64) (.pair (.int .i64) (.int .i64)))))))))))))) (.pair (.st (.pair (.sl (.st (.pair .str (.int .i64)))) (.pair (.sl (.st (.pair .str (.int .i64)))) (.pair (.sl .str) (.sl (.st (.pair .str (.pair (.sl .str) (.sl (.mu 2)))))))))) (.st (.pair .str (.pair (.sl .str) (.sl (.mu 2)))))))), 192, 0, [(0, 2), (2, 4), (6, 3)], false⟩),
  (123, ⟨(.st (.pair (.st (.st (.pair (.int .i64) (.sl (.st (.pair (.int .i64) (.pair (.int .i64) (.pair (.int .i64) (.pair (.int .i64) (.pair (.int .i64) (.pair (.int .i64) (.pair (.int .i64) (.pair (.int .i64) (.int .i64)))))))))))))) (.pair (.st (.pair (.sl (.st (.pair .str (.int .i64)))) (.pair (.sl (.st (.pair .str (.int .i64)))) (.pair (.sl .str) (.sl (.st (.pair .str (.pair (.sl .str) (.sl (.mu 2)))))))))) (.st (.pair .str (.pair (.sl .str) (.sl (.mu 2)))))))), 192, 0, [(0, 2), (2, 4), (6, 3)], false⟩),
  (124, ⟨(.mu 1000), 8, 0, [], false⟩),
  (125, ⟨(.mu 1000), 8, 0, [], false⟩),
  (126, ⟨(.mu 1000), 8, 0, [], false⟩),
  (127, ⟨(.mu 1000), 8, 0, [], false⟩),
  (128, ⟨(.mu 1000), 8, 0, [], false⟩),
  (129, ⟨(.mu 1000), 8, 0, [], false⟩),
  (130, ⟨(.mu 1000), 8, 0, [], false⟩),
  (131, ⟨(.mu 1000), 8, 0, [], false⟩),
  (132, ⟨(.mu 1000), 8, 0, [], false⟩),
  (133, ⟨(.mu 1000), 8, 0, [], false⟩),
  (135, ⟨(.mu 1000), 8, 0, [], false⟩),
  (136, ⟨(.mu 1000), 8, 0, [], false⟩),
  (137, ⟨(.mu 1000), 8, 0, [], false⟩),
  (138, ⟨(.mu 1000), 8, 0, [], false⟩),
  (139, ⟨(.mu 1000), 8, 0, [], false⟩),
  (140, ⟨(.mu 1000), 8, 0, [], false⟩),
  (141, ⟨(.mu 1000), 8, 0, [], false⟩),
  (142, ⟨(.mu 1000), 8, 0, [], false⟩),
  (143, ⟨(.sl (.st (.pair (.int .i64) .bool))), 24, 179, [], false⟩),
  (145, ⟨(.mu 1000), 8, 0, [], false⟩),
  (146, ⟨(.mu 1000), 8, 0, [], false⟩),
  (147, ⟨(.mu 1000), 8, 0, [], false⟩),
  (148, ⟨(.mu 1000), 8, 0, [], false⟩),
  (149, ⟨(.mu 1000), 8, 0, [], false⟩),
  (150, ⟨(.mu 1000), 8, 0, [], false⟩),
  (151, ⟨(.mu 1000), 8, 0, [], false⟩),
  (154, ⟨(.mu 1000), 8, 0, [], false⟩),
  (155, ⟨(.mu 1000), 8, 0, [], false⟩),
  (156, ⟨(.mu 1000), 8, 0, [], false⟩),
  (158, ⟨(.mu 1000), 8, 0, [], false⟩),
  (159, ⟨(.mu 1000), 8, 0, [], false⟩),
  (161, ⟨(.mu 1000), 8, 0, [], false⟩),
  (163, ⟨(.mu 1000), 8, 0, [], false⟩),
  (164, ⟨(.mu 1000), 8, 0, [], false⟩),
  (168, ⟨(.mu 1000), 8, 0, [], false⟩),
  (169, ⟨(.mu 1000), 8, 0, [], false⟩),
  (171, ⟨(.mu 1000), 8, 0, [], false⟩),
  (172, ⟨(.sl (.st (.pair (.int .i64) .bool))), 24, 193, [], false⟩),
  (174, ⟨(.mu 1000), 8, 0, [], false⟩),
  (175, ⟨(.mu 1000), 8, 0, [], false⟩),
  (177, ⟨(.mu 1000), 8, 0, [], false⟩),
  (178, ⟨(.st (.pair (.int .i64) .bool)), 16, 0, [(0, 1), (1, 1)], true⟩),
  (179, ⟨(.st (.pair (.int .i64) .bool)), 16, 0, [(0, 1), (1, 1)], true⟩),
  (181, ⟨(.mu 1000), 8, 0, [], false⟩),
  (182, ⟨(.mu 1000), 8, 0, [], false⟩),
  (183, ⟨(.mu 1000), 8, 0, [], false⟩),
  (185, ⟨(.mu 1000), 8, 0, [], false⟩),
  (186, ⟨(.mu 1000), 8, 0, [], false⟩),
  (188, ⟨(.mu 1000), 8, 0, [], false⟩),
  (189, ⟨(.mu 1000), 8, 0, [], false⟩),
  (190, ⟨(.mu 1000), 8, 0, [], false⟩),
  (191, ⟨(.mu 1000), 8, 0, [], false⟩),
  (192, ⟨(.st (.pair (.int .i64) .bool)), 16, 0, [(0, 1), (1, 1)], true⟩),
  (193, ⟨(.st (.pair (.int .i64) .bool)), 16, 0, [(0, 1), (1, 1)], true⟩),
  (196, ⟨(.mu 1000), 8, 0, [], false⟩),
  (197, ⟨(.mu 1000), 8, 0, [], false⟩),
  (202, ⟨(.mu 1000), 8, 0, [], false⟩),
  (203, ⟨(.mu 1000), 8, 0, [], false⟩),
  (204, ⟨(.mu 1000), 8, 0, [], false⟩),
  (212, ⟨(.mu 1000), 8, 0, [], false⟩)]
def keeps : Nat → List Nat
  | 3 => [0, 3, 1, 14, 18, 2, 7, 35, 6]
  | 4 => [0, 1, 8, 3, 5, 4, 6, 2]
  | 5 => [0, 1, 2, 3, 10, 4]
  | 6 => [0, 1, 16, 4, 3, 22, 34, 5, 39, 6, 50, 7, 9, 8, 72, 83, 2]
  | 7 => [0, 1, 10, 3, 15, 31, 2]
  | 8 => [0, 1, 4, 3, 33, 5, 53, 6, 73, 7, 92, 8, 124, 2]
  | 9 => [0, 1, 2, 4]
  | 10 => [0, 2, 1, 4]
  | 11 => [0, 1, 3, 7, 11, 15, 2]
  | 12 => [0, 1, 4, 32, 3, 46, 48, 52, 5, 60, 76, 2]
  | 13 => [0, 1, 2, 3, 4]
  | 14 => [0, 5, 2, 10, 1, 20, 4]
  | 15 => [0, 1, 2, 3, 4]
  | 16 => [0, 5, 2, 10, 1, 20, 4]
  | 17 => [0, 1, 2, 4]
  | 18 => [0, 2, 1, 4]
  | 19 => [1, 2, 0]
  | 20 => [0, 1, 4, 3, 33, 5, 53, 6, 73, 7, 92, 8, 124, 2]
  | 21 => [0, 1, 4, 17, 2, 27, 26, 28, 25, 5, 7, 42, 41, 43, 40, 9, 57, 56, 58, 55, 11, 13, 68, 12, 3]
  | 22 => [0, 1, 4, 14, 2, 6, 25, 5, 7, 43, 8, 61, 9, 10, 110, 3]
  | 23 => [0, 1, 2, 3, 38, 5, 43, 6, 7, 69, 8, 74, 87, 4]
  | 24 => [1, 2, 4, 3, 0]
  | 25 => [0, 1, 4, 3, 20, 2]
  | 26 => [0, 1, 2]
  | 27 => [0, 1, 36, 3, 41, 50, 4, 55, 71, 5, 76, 6, 7, 108, 8, 111, 122, 2]
  | 28 => [0, 1, 2, 3, 4]
  | 29 => [0, 1, 17, 16, 18, 15, 3, 5, 31, 30, 32, 29, 7, 38, 37, 39, 36, 9, 44, 2]
  | 30 => [0, 1, 10, 5, 14, 25, 4]
  | 31 => [0, 1, 9, 8, 10, 7, 5, 21, 4, 25, 3, 39, 2]
  | 32 => [0, 4, 1, 12, 6, 20, 7, 35, 5, 54, 3, 2]
  | 33 => [0, 4, 1, 14, 3, 5, 28, 6, 49, 7, 60, 8, 74, 2]
  | 34 => [1, 0, 5, 17, 4]
  | 35 => [1, 0, 4]
  | 36 => [5, 0, 9, 1, 17, 4]
  | 37 => [0, 1, 2]
  | 38 => [0, 1, 2]
  | 39 => [0, 1, 14, 13, 15, 12, 3, 6, 27, 26, 28, 25, 8, 44, 43, 45, 42, 4, 10, 58, 2]
  | 40 => [1, 0, 3, 4]
  | 41 => [0, 2, 1, 3]
  | 42 => [1, 0, 3, 4]
  | 43 => [0, 1, 3, 6, 7, 2, 19, 39, 48, 68, 81, 4]
  | 44 => [0, 3, 1, 13, 33, 4, 38, 66, 5, 71, 80, 6, 85, 7, 102, 8, 107, 116, 2]
  | 45 => [0, 5, 1, 12, 3, 6, 28, 7, 48, 4, 70, 2]
  | 46 => [0, 1, 7, 2, 13, 8, 21, 22, 4, 3, 43, 64, 72, 93, 107, 9, 115, 6]
  | 47 => [0, 8, 7, 9, 1, 5, 16, 4]
  | 48 => [0, 2, 1, 3]
  | 49 => [0, 8, 7, 9, 1, 5, 16, 4]
  | 50 => [0, 2, 1, 3]
  | 51 => [1, 0, 5, 17, 4]
  | 52 => [0, 1, 2, 3, 6, 41, 4, 5]
  | 53 => [4, 1, 0, 16]
  | 54 => [1, 0, 3, 4]
  | 55 => [0, 7, 6, 8, 5, 4, 16, 2]
  | 56 => [0, 1, 2, 6]
  | 57 => [0, 1, 4]
  | 58 => [0, 2]
  | 59 => [0, 1, 4]
  | 60 => [0, 1, 2, 3]
  | 61 => [0, 1, 3, 5, 2, 4]
  | 62 => [0, 1, 4]
  | 63 => [0, 2]
  | 64 => [0, 1, 2, 4, 5, 20, 21, 7, 25, 29, 34, 3, 40, 46, 53, 60, 65, 69, 8, 110, 13, 132, 9, 10, 11, 12, 6]
  | 65 => [0, 1, 10, 13, 12, 14, 5, 24, 4]
  | 66 => [0, 1, 14, 17, 16, 18, 15, 7, 2, 8, 9, 30, 6]
  | 67 => [0, 1, 2, 3, 4]
  | 68 => [0, 1, 10, 13, 12, 14, 5, 24, 4]
  | 69 => [0, 1, 5, 12, 6, 19, 7, 29, 4]
  | 70 => [0, 2]
  | 71 => [0, 2]
  | 72 => [0, 8, 3, 13, 25, 5, 4, 32, 44, 2]
  | 73 => [1, 9, 0, 5, 22, 36, 6, 4]
  | 74 => [0, 1, 2, 5, 24, 4]
  | 75 => [0, 1, 2, 5, 25, 6, 43, 4]
  | 76 => [0, 8, 7, 9, 1, 5, 16, 4]
  | 77 => [0, 1, 2]
  | 78 => [0, 2]
  | 79 => [1, 0, 3, 4]
  | 80 => [0, 1, 2]
  | 81 => [0, 2]
  | 82 => [1, 0, 3, 4]
  | 83 => [0, 1, 2]
  | 84 => [0, 1, 2, 6]
  | 85 => [0, 1, 2]
  | 86 => [0, 1, 4, 5, 15, 30, 36, 51, 61, 2]
  | 87 => [0, 7, 6, 8, 5, 4, 3, 17, 2]
  | 88 => [0, 4, 2]
  | 89 => [0, 1, 4]
  | 90 => [0, 1, 2, 3]
  | 91 => [0, 1, 4]
  | 92 => [0, 1, 2, 3]
  | 93 => [0, 2, 1, 4]
  | 94 => [0, 1, 3, 2, 4]
  | 95 => [0, 1, 3, 2, 4]
  | 96 => [3, 0, 7, 35, 2]
  | 97 => [3, 0, 9, 4, 17, 18, 28, 43, 49, 64, 74, 79, 5, 82, 2]
  | 98 => [3, 0, 7, 18, 2]
  | 99 => [0, 1, 2, 5, 4, 3, 24, 34, 7, 39, 50, 6]
  | 100 => [0, 1, 2, 7, 5, 13, 3, 4, 24, 8, 29, 40, 6]
  | 101 => [0, 1, 2, 5, 24, 4]
  | 102 => [0, 1, 2, 5, 25, 6, 43, 4]
  | 103 => [1, 8, 7, 9, 6, 0, 5]
  | 104 => [0, 1, 4]
  | 105 => [1, 3, 16, 20, 0, 5, 34, 4, 51, 6, 7, 73, 85, 97, 102, 9, 11, 8, 10, 145, 14, 13, 12]
  | 106 => [0, 8, 7, 9, 1, 5, 16, 4]
  | 107 => [0, 8, 7, 9, 1, 5, 16, 4]
  | 108 => [0, 1, 4]
  | 109 => [0, 1, 2, 3, 4]
  | 110 => [0, 1, 2, 5, 10, 11, 13, 4, 8, 7, 3, 6]
  | 111 => [0, 1, 11, 2, 3, 8]
  | 112 => [2, 1, 10, 23, 0, 3, 29, 8, 35, 12, 50, 11, 9, 68, 72, 87, 13, 15, 14, 16, 17, 113, 18]
  | 113 => [0, 2]
  | 114 => [0, 1, 4]
  | 115 => [0, 2]
  | 116 => [0, 1, 4]
  | 117 => [0, 1, 2, 3]
  | 118 => [0, 1, 4]
  | 119 => [0, 1, 12, 21, 6, 34, 5, 4]
  | 120 => [0, 1, 4]
  | 121 => [0, 1, 2, 3]
  | 122 => [0, 1, 6, 7, 12, 14, 19, 24, 26, 3, 4, 2]
  | 123 => [0, 1, 7, 8, 13, 15, 3, 4, 5, 2]
  | 124 => [0, 8, 7, 9, 1, 5, 16, 4]
  | 125 => [0, 8, 7, 9, 1, 5, 16, 4]
  | 126 => [1, 0, 3, 4]
  | 127 => [1, 0, 3, 4]
  | 128 => [0, 1, 40, 54, 3, 59, 68, 2]
  | 129 => [0, 1, 8, 9, 11, 13, 3, 4, 41, 5, 44, 53, 6, 56, 65, 2]
  | 130 => [1, 3, 11, 17, 0, 5, 31, 4, 52, 6, 7, 76, 90, 104, 109, 114, 9, 8]
  | 131 => [1, 0, 5, 3, 4]
  | 132 => [1, 0, 22, 3, 24, 25, 5, 36, 6, 46, 7, 62, 9, 8, 85, 10, 94, 13, 11, 12, 15, 16, 14, 4]
  | 133 => [1, 0, 3, 4, 29, 5, 6]
  | 134 => [1, 3, 18, 19, 0, 6, 7, 8, 46, 10, 9, 70, 11, 13, 12, 14, 15, 16, 4, 5]
  | 135 => [6, 1, 10, 17, 0, 2]
  | 136 => [0, 8, 7, 9, 1, 5, 16, 4]
  | 137 => [0, 1, 10, 11, 3, 19, 27, 32, 46, 54, 62, 73, 84, 90, 2]
  | 138 => [0, 1, 5, 6, 2, 12, 18, 4]
  | 139 => [0, 1, 4, 5, 12, 20, 29, 34, 2]
  | 140 => [0, 1, 3]
  | 141 => [0, 1, 7, 5, 17, 6, 24, 4]
  | 142 => [1, 6, 2, 12, 7, 0, 30]
  | 143 => [1, 2, 8, 9, 19, 0, 6, 10, 30, 7]
  | 144 => [2, 1, 6, 15, 9, 33, 7, 8, 10, 43, 0]
  | 145 => [2, 1, 8, 32, 34, 0, 10, 9, 11, 12, 49, 51, 54, 6, 7]
  | 146 => [1, 2, 6, 7, 13, 0]
  | 147 => [1, 8, 14, 7, 2, 0, 32, 37, 41, 61, 9, 65, 78, 98, 10, 103, 116, 6]
  | 148 => [0, 1, 4]
  | 149 => [0, 1, 3, 2, 9, 10, 43, 59, 64, 8]
  | 150 => [0, 1, 3, 2, 10, 11, 43, 60, 65, 112, 129, 134, 8, 9]
  | 151 => [0, 4, 8, 2]
  | 152 => [0, 4, 8, 2, 14]
  | 153 => [0, 8, 7, 9, 1, 5, 16, 4]
  | 154 => [0, 1, 4]
  | 155 => [0, 1, 13, 4]
  | 156 => [0, 1, 16, 4]
  | 157 => [4, 0, 9, 5, 16, 2, 3]
  | 158 => [0, 7, 1, 12, 4]
  | 159 => [0, 7, 1, 15, 4]
  | 160 => [0, 9, 1, 5, 18, 6, 4]
  | 161 => [0, 9, 5, 17, 1, 26, 6, 4]
  | 162 => [0, 1, 4]
  | 163 => [0, 1, 2, 3]
  | 164 => [0, 1, 4]
  | 165 => [0, 1, 2, 3]
  | 166 => [0, 3, 4, 8, 11, 2]
  | 167 => [1, 3, 12, 13, 0, 22, 5, 32, 46, 6, 67, 74, 7, 8, 10, 9, 4]
  | 168 => [1, 0, 3, 4, 26, 5, 6]
  | 169 => [1, 0, 3, 5, 7, 4, 6]
  | 170 => [1, 3, 14, 15, 0, 6, 7, 8, 44, 4, 5, 68, 9, 10, 11, 12]
  | 171 => [1, 8, 7, 9, 6, 5, 13, 0]
  | 172 => [0, 2]
  | 173 => [0, 2]
  | 174 => [1, 8, 9, 2, 16, 0, 3, 36, 52]
  | 175 => [0, 2]
  | 176 => [0, 2]
  | 177 => [0, 1, 2, 6]
  | 178 => [0, 1, 2, 4, 3, 10]
  | 179 => [0, 2]
  | 181 => [0, 1, 4]
  | 182 => [0, 10, 2, 3]
  | 183 => [0, 1, 4]
  | 184 => [0, 4, 10, 5, 2, 18, 6, 27, 33, 35, 3, 48]
  | 185 => [0, 8, 7, 9, 1, 5, 16, 4]
  | 186 => [0, 8, 7, 9, 1, 5, 16, 4]
  | 187 => [1, 0, 3, 4]
  | 188 => [0, 2, 1, 18, 3, 8, 9]
  | 189 => [0, 4, 16, 5, 6, 23, 7, 8, 45, 10, 9, 57, 59, 11, 75, 77, 12, 98, 2, 3]
  | 190 => [1, 160, 0, 171, 175, 177, 176, 6, 181, 5, 183, 7, 8, 9, 26, 33, 11, 43, 12, 51, 64, 10, 98, 13, 108, 124, 14, 15, 139, 16, 143, 156, 4]
  | 191 => [0, 2]
  | 192 => [0, 2]
  | 193 => [0, 3, 10, 2]
  | 194 => [0, 2]
  | _ => []
noncomputable def inl : Nat → Option Func
  | 3 => some Tryz.f3
  | 4 => some Tryz.f4
  | 5 => some Tryz.f5
  | 6 => some Tryz.f6
  | 7 => some Tryz.f7
  | 8 => some Tryz.f8
  | 9 => some Tryz.f9
  | 10 => some Tryz.f10
  | 11 => some Tryz.f11
  | 12 => some Tryz.f12
  | 13 => some Tryz.f13
  | 14 => some Tryz.f14
  | 15 => some Tryz.f15
  | 16 => some Tryz.f16
  | 17 => some Tryz.f17
  | 18 => some Tryz.f18
  | 19 => some Tryz.f19
  | 20 => some Tryz.f20
  | 21 => some Tryz.f21
  | 22 => some Tryz.f22
  | 23 => some Tryz.f23
  | 24 => some Tryz.f24
  | 25 => some Tryz.f25
  | 26 => some Tryz.f26
  | 27 => some Tryz.f27
  | 28 => some Tryz.f28
  | 29 => some Tryz.f29
  | 30 => some Tryz.f30
  | 31 => some Tryz.f31
  | 32 => some Tryz.f32
  | 33 => some Tryz.f33
  | 34 => some Tryz.f34
  | 35 => some Tryz.f35
  | 36 => some Tryz.f36
  | 37 => some Tryz.f37
  | 38 => some Tryz.f38
  | 39 => some Tryz.f39
  | 40 => some Tryz.f40
  | 41 => some Tryz.f41
  | 42 => some Tryz.f42
  | 43 => some Tryz.f43
  | 44 => some Tryz.f44
  | 45 => some Tryz.f45
  | 46 => some Tryz.f46
  | 47 => some Tryz.f47
  | 48 => some Tryz.f48
  | 49 => some Tryz.f49
  | 50 => some Tryz.f50
  | 51 => some Tryz.f51
  | 52 => some Tryz.f52
  | 53 => some Tryz.f53
  | 54 => some Tryz.f54
  | 55 => some Tryz.f55
  | 56 => some Tryz.f56
  | 57 => some Tryz.f57
  | 58 => some Tryz.f58
  | 59 => some Tryz.f59
  | 60 => some Tryz.f60
  | 61 => some Tryz.f61
  | 62 => some Tryz.f62
  | 63 => some Tryz.f63
  | 64 => some Tryz.f64
  | 65 => some Tryz.f65
  | 66 => some Tryz.f66
  | 67 => some Tryz.f67
  | 68 => some Tryz.f68
  | 69 => some Tryz.f69
  | 70 => some Tryz.f70
  | 71 => some Tryz.f71
  | 72 => some Tryz.f72
  | 73 => some Tryz.f73
  | 74 => some Tryz.f74
  | 75 => some Tryz.f75
  | 76 => some Tryz.f76
  | 77 => some Tryz.f77
  | 78 => some Tryz.f78
  | 79 => some Tryz.f79
  | 80 => some Tryz.f80
  | 81 => some Tryz.f81
  | 82 => some Tryz.f82
  | 83 => some Tryz.f83
  | 84 => some Tryz.f84
  | 85 => some Tryz.f85
  | 86 => some Tryz.f86
  | 87 => some Tryz.f87
  | 88 => some Tryz.f88
  | 89 => some Tryz.f89
  | 90 => some Tryz.f90
  | 91 => some Tryz.f91
  | 92 => some Tryz.f92
  | 93 => some Tryz.f93
  | 94 => some Tryz.f94
  | 95 => some Tryz.f95
  | 96 => some Tryz.f96
  | 97 => some Tryz.f97
  | 98 => some Tryz.f98
  | 99 => some Tryz.f99
  | 100 => some Tryz.f100
  | 101 => some Tryz.f101
  | 102 => some Tryz.f102
  | 103 => some Tryz.f103
  | 104 => some Tryz.f104
  | 105 => some Tryz.f105
  | 106 => some Tryz.f106
  | 107 => some Tryz.f107
  | 108 => some Tryz.f108
  | 109 => some Tryz.f109
  | 110 => some Tryz.f110
  | 111 => some Tryz.f111
  | 112 => some Tryz.f112
  | 113 => some Tryz.f113
  | 114 => some Tryz.f114
  | 115 => some Tryz.f115
  | 116 => some Tryz.f116
  | 117 => some Tryz.f117
  | 118 => some Tryz.f118
  | 119 => some Tryz.f119
  | 120 => some Tryz.f120
  | 121 => some Tryz.f121
  | 122 => some Tryz.f122
  | 123 => some Tryz.f123
  | 124 => some Tryz.f124
  | 125 => some Tryz.f125
  | 126 => some Tryz.f126
  | 127 => some Tryz.f127
  | 128 => some Tryz.f128
  | 129 => some Tryz.f129
  | 130 => some Tryz.f130
  | 131 => some Tryz.f131
  | 132 => some Tryz.f132
  | 133 => some Tryz.f133
  | 134 => some Tryz.f134
  | 135 => some Tryz.f135
  | 136 => some Tryz.f136
  | 137 => some Tryz.f137
  | 138 => some Tryz.f138
  | 139 => some Tryz.f139
  | 140 => some Tryz.f140
  | 141 => some Tryz.f141
  | 142 => some Tryz.f142
  | 143 => some Tryz.f143
  | 144 => some Tryz.f144
  | 145 => some Tryz.f145
  | 146 => some Tryz.f146
  | 147 => some Tryz.f147
  | 148 => some Tryz.f148
  | 149 => some Tryz.f149
  | 150 => some Tryz.f150
  | 151 => some Tryz.f151
  | 152 => some Tryz.f152
  | 153 => some Tryz.f153
  | 154 => some Tryz.f154
  | 155 => some Tryz.f155
  | 156 => some Tryz.f156
  | 157 => some Tryz.f157
  | 158 => some Tryz.f158
  | 159 => some Tryz.f159
  | 160 => some Tryz.f160
  | 161 => some Tryz.f161
  | 162 => some Tryz.f162
  | 163 => some Tryz.f163
  | 164 => some Tryz.f164
  | 165 => some Tryz.f165
  | 166 => some Tryz.f166
  | 167 => some Tryz.f167
  | 168 => some Tryz.f168
  | 169 => some Tryz.f169
  | 170 => some Tryz.f170
  | 171 => some Tryz.f171
  | 172 => some Tryz.f172
  | 173 => some Tryz.f173
  | 174 => some Tryz.f174
  | 175 => some Tryz.f175
  | 176 => some Tryz.f176
  | 177 => some Tryz.f177
  | 178 => some Tryz.f178
  | 179 => some Tryz.f179
  | 181 => some Tryz.f181
  | 182 => some Tryz.f182
  | 183 => some Tryz.f183
  | 184 => some Tryz.f184
  | 185 => some Tryz.f185
  | 186 => some Tryz.f186
  | 187 => some Tryz.f187
  | 188 => some Tryz.f188
  | 189 => some Tryz.f189
  | 190 => some Tryz.f190
  | 191 => some Tryz.f191
  | 192 => some Tryz.f192
  | 193 => some Tryz.f193
  | 194 => some Tryz.f194
  | 217 => some Tryz.f217
  | _ => none
theorem tab_ok : tabB Tryz.prog tab = true := by kernel_rfl
theorem cmps_ok : cmpsB Tryz.prog tab = true := by kernel_rfl
theorem mixed : Tryz.prog.follows .mixedOrders = true := by kernel_rfl
theorem inl_ok : ∀ g fn, inl g = some fn → Tryz.prog.funcs[g]? = some fn ∧ (fn.name == "runtime.NumGoroutine") = false := by
  intro g fn h
  unfold inl at h
  split at h
  · cases h; exact ⟨Tryz.func3, by kernel_rfl⟩
  · cases h; exact ⟨Tryz.func4, by kernel_rfl⟩
  · cases h; exact ⟨Tryz.func5, by kernel_rfl⟩
  · cases h; exact ⟨Tryz.func6, by kernel_rfl⟩
  · cases h; exact ⟨Tryz.func7, by kernel_rfl⟩
  · cases h; exact ⟨Tryz.func8, by kernel_rfl⟩
  · cases h; exact ⟨Tryz.func9, by kernel_rfl⟩
  · cases h; exact ⟨Tryz.func10, by kernel_rfl⟩
  · cases h; exact ⟨Tryz.func11, by kernel_rfl⟩
  · cases h; exact ⟨Tryz.func12, by kernel_rfl⟩
  · cases h; exact ⟨Tryz.func13, by kernel_rfl⟩
  · cases h; exact ⟨Tryz.func14, by kernel_rfl⟩
  · cases h; exact ⟨Tryz.func15, by kernel_rfl⟩
  · cases h; exact ⟨Tryz.func16, by kernel_rfl⟩
  · cases h; exact ⟨Tryz.func17, by kernel_rfl⟩
  · cases h; exact ⟨Tryz.func18, by kernel_rfl⟩
  · cases h; exact ⟨Tryz.func19, by kernel_rfl⟩
  · cases h; exact ⟨Tryz.func20, by kernel_rfl⟩
  · cases h; exact ⟨Tryz.func21, by kernel_rfl⟩
  · cases h; exact ⟨Tryz.func22, by kernel_rfl⟩
  · cases h; exact ⟨Tryz.func23, by kernel_rfl⟩
  · cases h; exact ⟨Tryz.func24, by kernel_rfl⟩
  · cases h; exact ⟨Tryz.func25, by kernel_rfl⟩
  · cases h; exact ⟨Tryz.func26, by kernel_rfl⟩
  · cases h; exact ⟨Tryz.func27, by kernel_rfl⟩
  · cases h; exact ⟨Tryz.func28, by kernel_rfl⟩
  · cases h; exact ⟨Tryz.func29, by kernel_rfl⟩
  · cases h; exact ⟨Tryz.func30, by kernel_rfl⟩
  · cases h; exact ⟨Tryz.func31, by kernel_rfl⟩
  · cases h; exact ⟨Tryz.func32, by kernel_rfl⟩
  · cases h; exact ⟨Tryz.func33, by kernel_rfl⟩
  · cases h; exact ⟨Tryz.func34, by kernel_rfl⟩
  · cases h; exact ⟨Tryz.func35, by kernel_rfl⟩
  · cases h; exact ⟨Tryz.func36, by kernel_rfl⟩
  · cases h; exact ⟨Tryz.func37, by kernel_rfl⟩
  · cases h; exact ⟨Tryz.func38, by kernel_rfl⟩
  · cases h; exact ⟨Tryz.func39, by kernel_rfl⟩
  · cases h; exact ⟨Tryz.func40, by kernel_rfl⟩
  · cases h; exact ⟨Tryz.func41, by kernel_rfl⟩
  · cases h; exact ⟨Tryz.func42, by kernel_rfl⟩
  · cases h; exact ⟨Tryz.func43, by kernel_rfl⟩
  · cases h; exact ⟨Tryz.func44, by kernel_rfl⟩
  · cases h; exact ⟨Tryz.func45, by kernel_rfl⟩
  · cases h; exact ⟨Tryz.func46, by kernel_rfl⟩
  · cases h; exact ⟨Tryz.func47, by kernel_rfl⟩
  · cases h; exact ⟨Tryz.func48, by kernel_rfl⟩
  · cases h; exact ⟨Tryz.func49, by kernel_rfl⟩
  · cases h; exact ⟨Tryz.func50, by kernel_rfl⟩
  · cases h; exact ⟨Tryz.func51, by kernel_rfl⟩
  · cases h; exact ⟨Tryz.func52, by kernel_rfl⟩
  · cases h; exact ⟨Tryz.func53, by kernel_rfl⟩
  · cases h; exact ⟨Tryz.func54, by kernel_rfl⟩
  · cases h; exact ⟨Tryz.func55, by kernel_rfl⟩
  · cases h; exact ⟨Tryz.func56, by kernel_rfl⟩
  · cases h; exact ⟨Tryz.func57, by kernel_rfl⟩
  · cases h; exact ⟨Tryz.func58, by kernel_rfl⟩
  · cases h; exact ⟨Tryz.func59, by kernel_rfl⟩
  · cases h; exact ⟨Tryz.func60, by kernel_rfl⟩
  · cases h; exact ⟨Tryz.func61, by kernel_rfl⟩
  · cases h; exact ⟨Tryz.func62, by kernel_rfl⟩
  · cases h; exact ⟨Tryz.func63, by kernel_rfl⟩
  · cases h; exact ⟨Tryz.func64, by kernel_rfl⟩
  · cases h; exact ⟨Tryz.func65, by kernel_rfl⟩
  · cases h; exact ⟨Tryz.func66, by kernel_rfl⟩
  · cases h; exact ⟨Tryz.func67, by kernel_rfl⟩
  · cases h; exact ⟨Tryz.func68, by kernel_rfl⟩
  · cases h; exact ⟨Tryz.func69, by kernel_rfl⟩
  · cases h; exact ⟨Tryz.func70, by kernel_rfl⟩
  · cases h; exact ⟨Tryz.func71, by kernel_rfl⟩
  · cases h; exact ⟨Tryz.func72, by kernel_rfl⟩
  · cases h; exact ⟨Tryz.func73, by kernel_rfl⟩
  · cases h; exact ⟨Tryz.func74, by kernel_rfl⟩
  · cases h; exact ⟨Tryz.func75, by kernel_rfl⟩
  · cases h; exact ⟨Tryz.func76, by kernel_rfl⟩
  · cases h; exact ⟨Tryz.func77, by kernel_rfl⟩
  · cases h; exact ⟨Tryz.func78, by kernel_rfl⟩
  · cases h; exact ⟨Tryz.func79, by kernel_rfl⟩
  · cases h; exact ⟨Tryz.func80, by kernel_rfl⟩
  · cases h; exact ⟨Tryz.func81, by kernel_rfl⟩
  · cases h; exact ⟨Tryz.func82, by kernel_rfl⟩
  · cases h; exact ⟨Tryz.func83, by kernel_rfl⟩
  · cases h; exact ⟨Tryz.func84, by kernel_rfl⟩
  · cases h; exact ⟨Tryz.func85, by kernel_rfl⟩
  · cases h; exact ⟨Tryz.func86, by kernel_rfl⟩
  · cases h; exact ⟨Tryz.func87, by kernel_rfl⟩
  · cases h; exact ⟨Tryz.func88, by kernel_rfl⟩
  · cases h; exact ⟨Tryz.func89, by kernel_rfl⟩
  · cases h; exact ⟨Tryz.func90, by kernel_rfl⟩
  · cases h; exact ⟨Tryz.func91, by kernel_rfl⟩
  · cases h; exact ⟨Tryz.func92, by kernel_rfl⟩
  · cases h; exact ⟨Tryz.func93, by kernel_rfl⟩
  · cases h; exact ⟨Tryz.func94, by kernel_rfl⟩
  · cases h; exact ⟨Tryz.func95, by kernel_rfl⟩
  · cases h; exact ⟨Tryz.func96, by kernel_rfl⟩
  · cases h; exact ⟨Tryz.func97, by kernel_rfl⟩
  · cases h; exact ⟨Tryz.func98, by kernel_rfl⟩
  · cases h; exact ⟨Tryz.func99, by kernel_rfl⟩
  · cases h; exact ⟨Tryz.func100, by kernel_rfl⟩
  · cases h; exact ⟨Tryz.func101, by kernel_rfl⟩
  · cases h; exact ⟨Tryz.func102, by kernel_rfl⟩
  · cases h; exact ⟨Tryz.func103, by kernel_rfl⟩
  · cases h; exact ⟨Tryz.func104, by kernel_rfl⟩
  · cases h; exact ⟨Tryz.func105, by kernel_rfl⟩
  · cases h; exact ⟨Tryz.func106, by kernel_rfl⟩
  · cases h; exact ⟨Tryz.func107, by kernel_rfl⟩
  · cases h; exact ⟨Tryz.func108, by kernel_rfl⟩
  · cases h; exact ⟨Tryz.func109, by kernel_rfl⟩
  · cases h; exact ⟨Tryz.func110, by kernel_rfl⟩
  · cases h; exact ⟨Tryz.func111, by kernel_rfl⟩
  · cases h; exact ⟨Tryz.func112, by kernel_rfl⟩
  · cases h; exact ⟨Tryz.func113, by kernel_rfl⟩
  · cases h; exact ⟨Tryz.func114, by kernel_rfl⟩
  · cases h; exact ⟨Tryz.func115, by kernel_rfl⟩
  · cases h; exact ⟨Tryz.func116, by kernel_rfl⟩
  · cases h; exact ⟨Tryz.func117, by kernel_rfl⟩
  · cases h; exact ⟨Tryz.func118, by kernel_rfl⟩
  · cases h; exact ⟨Tryz.func119, by kernel_rfl⟩
  · cases h; exact ⟨Tryz.func120, by kernel_rfl⟩
  · cases h; exact ⟨Tryz.func121, by kernel_rfl⟩
  · cases h; exact ⟨Tryz.func122, by kernel_rfl⟩
  · cases h; exact ⟨Tryz.func123, by kernel_rfl⟩
  · cases h; exact ⟨Tryz.func124, by kernel_rfl⟩
  · cases h; exact ⟨Tryz.func125, by kernel_rfl⟩
  · cases h; exact ⟨Tryz.func126, by kernel_rfl⟩
  · cases h; exact ⟨Tryz.func127, by kernel_rfl⟩
  · cases h; exact ⟨Tryz.func128, by kernel_rfl⟩
  · cases h; exact ⟨Tryz.func129, by kernel_rfl⟩
  · cases h; exact ⟨Tryz.func130, by kernel_rfl⟩
  · cases h; exact ⟨Tryz.func131, by kernel_rfl⟩
  · cases h; exact ⟨Tryz.func132, by kernel_rfl⟩
  · cases h; exact ⟨Tryz.func133, by kernel_rfl⟩
  · cases h; exact ⟨Tryz.func134, by kernel_rfl⟩
  · cases h; exact ⟨Tryz.func135, by kernel_rfl⟩
  · cases h; exact ⟨Tryz.func136, by kernel_rfl⟩
  · cases h; exact ⟨Tryz.func137, by kernel_rfl⟩
  · cases h; exact ⟨Tryz.func138, by kernel_rfl⟩
  · cases h; exact ⟨Tryz.func139, by kernel_rfl⟩
  · cases h; exact ⟨Tryz.func140, by kernel_rfl⟩
  · cases h; exact ⟨Tryz.func141, by kernel_rfl⟩
  · cases h; exact ⟨Tryz.func142, by kernel_rfl⟩
  · cases h; exact ⟨Tryz.func143, by kernel_rfl⟩
  · cases h; exact ⟨Tryz.func144, by kernel_rfl⟩
  · cases h; exact ⟨Tryz.func145, by kernel_rfl⟩
  · cases h; exact ⟨Tryz.func146, by kernel_rfl⟩
  · cases h; exact ⟨Tryz.func147, by kernel_rfl⟩
  · cases h; exact ⟨Tryz.func148, by kernel_rfl⟩
  · cases h; exact ⟨Tryz.func149, by kernel_rfl⟩
  · cases h; exact ⟨Tryz.func150, by kernel_rfl⟩
  · cases h; exact ⟨Tryz.func151, by kernel_rfl⟩
  · cases h; exact ⟨Tryz.func152, by kernel_rfl⟩
  · cases h; exact ⟨Tryz.func153, by kernel_rfl⟩
  · cases h; exact ⟨Tryz.func154, by kernel_rfl⟩
  · cases h; exact ⟨Tryz.func155, by kernel_rfl⟩
  · cases h; exact ⟨Tryz.func156, by kernel_rfl⟩
  · cases h; exact ⟨Tryz.func157, by kernel_rfl⟩
  · cases h; exact ⟨Tryz.func158, by kernel_rfl⟩
  · cases h; exact ⟨Tryz.func159, by kernel_rfl⟩
  · cases h; exact ⟨Tryz.func160, by kernel_rfl⟩
  · cases h; exact ⟨Tryz.func161, by kernel_rfl⟩
  · cases h; exact ⟨Tryz.func162, by kernel_rfl⟩
  · cases h; exact ⟨Tryz.func163, by kernel_rfl⟩
  · cases h; exact ⟨Tryz.func164, by kernel_rfl⟩
  · cases h; exact ⟨Tryz.func165, by kernel_rfl⟩
  · cases h; exact ⟨Tryz.func166, by kernel_rfl⟩
  · cases h; exact ⟨Tryz.func167, by kernel_rfl⟩
  · cases h; exact ⟨Tryz.func168, by kernel_rfl⟩
  · cases h; exact ⟨Tryz.func169, by kernel_rfl⟩
  · cases h; exact ⟨Tryz.func170, by kernel_rfl⟩
  · cases h; exact ⟨Tryz.func171, by kernel_rfl⟩
  · cases h; exact ⟨Tryz.func172, by kernel_rfl⟩
  · cases h; exact ⟨Tryz.func173, by kernel_rfl⟩
  · cases h; exact ⟨Tryz.func174, by kernel_rfl⟩
  · cases h; exact ⟨Tryz.func175, by kernel_rfl⟩
  · cases h; exact ⟨Tryz.func176, by kernel_rfl⟩
  · cases h; exact ⟨Tryz.func177, by kernel_rfl⟩
  · cases h; exact ⟨Tryz.func178, by kernel_rfl⟩
  · cases h; exact ⟨Tryz.func179, by kernel_rfl⟩
  · cases h; exact ⟨Tryz.func181, by kernel_rfl⟩
  · cases h; exact ⟨Tryz.func182, by kernel_rfl⟩
  · cases h; exact ⟨Tryz.func183, by kernel_rfl⟩
  · cases h; exact ⟨Tryz.func184, by kernel_rfl⟩
  · cases h; exact ⟨Tryz.func185, by kernel_rfl⟩
  · cases h; exact ⟨Tryz.func186, by kernel_rfl⟩
  · cases h; exact ⟨Tryz.func187, by kernel_rfl⟩
  · cases h; exact ⟨Tryz.func188, by kernel_rfl⟩
  · cases h; exact ⟨Tryz.func189, by kernel_rfl⟩
  · cases h; exact ⟨Tryz.func190, by kernel_rfl⟩
  · cases h; exact ⟨Tryz.func191, by kernel_rfl⟩
  · cases h; exact ⟨Tryz.func192, by kernel_rfl⟩
  · cases h; exact ⟨Tryz.func193, by kernel_rfl⟩
  · cases h; exact ⟨Tryz.func194, by kernel_rfl⟩
  · cases h; exact ⟨Tryz.func217, by kernel_rfl⟩
  · cases h
end Go.Proofs.YtmjbedjnojcmfaaGreatDoor.Ex

namespace Go.Proofs.YtmjbedjnojcmfaaGreatDoor.Ex
set_option linter.unusedSectionVars false
set_option linter.unusedVariables false

inductive Sh where
  | undef | nil | int (k : IntKind) | bool | str | sl (e : Ty) | sln (e : Ty) | dat (t : Ty)
  | ptr (id off : Nat) | row (id : Nat) | eptr (id sz i off : Nat)
  | view (cs : List Sh) (off : Nat) | clo (f : Nat) (first caps : List Sh) | agg (cs : List Sh) | tup (vs : List Sh)

inductive BSh where
  | box (cs : List Sh)
  | row (e : Ty)

section
variable [RT]

mutual
def ShD : Sh → Type
  | .undef => Unit
  | .nil => Unit
  | .int _ => Int
  | .bool => Bool
  | .str => ByteArray
  | .sl e => List (D e)
  | .sln e => List (D e)
  | .dat t => D t
  | .ptr _ _ => Unit
  | .row _ => Unit
  | .eptr _ _ _ _ => Unit
  | .view cs _ => ShDs cs
  | .clo _ a b => ShDs a × ShDs b
  | .agg cs => ShDs cs
  | .tup cs => ShDs cs
def ShDs : List Sh → Type
  | [] => Unit
  | s :: r => ShD s × ShDs r
end

mutual
def mk : (s : Sh) → ShD s → AV
  | .undef, _ => .undef
  | .nil, _ => .nil
  | .int k, n => .int k n
  | .bool, b => .bool b
  | .str, s => .str s
  | .sl e, l => .sl e l
  | .sln e, l => .sl e l
  | .dat t, d => pack t (expand t d)
  | .ptr id off, _ => .ptr id off
  | .row id, _ => .row id
  | .eptr id sz i off, _ => .eptr id sz i off
  | .view cs off, d => .view (mks cs d) off
  | .clo f a b, d => .clo f (mks a d.1) (mks b d.2)
  | .agg cs, d => .agg (mks cs d)
  | .tup cs, d => .tup (mks cs d)
def mks : (s : List Sh) → ShDs s → List AV
  | [], _ => []
  | s :: r, d => mk s d.1 :: mks r d.2
end

def rdInt (k : IntKind) : AV → Option Int
  | .int k' n => if k = k' then some n else none
  | _ => none
def rdBool : AV → Option Bool
  | .bool b => some b
  | _ => none
def datCells (t : Ty) : AV → Option (List AV)
  | .agg cs => bif isSt t then some cs else none
  | .undef => none
  | .tup _ => none
  | v => bif isSt t then none else some [v]
def rdStr : AV → Option ByteArray
  | .str b => some b
  | _ => none
def rdSl (e : Ty) : AV → Option (List (D e))
  | .sl e' l => castL e' e l
  | _ => none
def rdSln (e : Ty) : AV → Option (List (D e))
  | .sl e' l => castL e' e l
  | .nil => some []
  | _ => none
def isUndef : AV → Bool
  | .undef => true
  | _ => false
def isNil : AV → Bool
  | .nil => true
  | _ => false
def isPtr (id off : Nat) : AV → Bool
  | .ptr i o => i.beq id && o.beq off
  | _ => false
def isRow (id : Nat) : AV → Bool
  | .row i => i.beq id
  | _ => false
def isEptr (id sz j off : Nat) : AV → Bool
  | .eptr i s k o => i.beq id && s.beq sz && k.beq j && o.beq off
  | _ => false
def fit (b : Bool) : Option Unit := bif b then some () else none
def viewOf (off : Nat) : AV → Option (List AV)
  | .view cs o => bif o.beq off then some cs else none
  | _ => none
def cloOf (f : Nat) : AV → Option (List AV × List AV)
  | .clo g a b => bif Nat.beq g f then some (a, b) else none
  | _ => none
def aggOf : AV → Option (List AV)
  | .agg cs => some cs
  | _ => none
def tupOf : AV → Option (List AV)
  | .tup cs => some cs
  | _ => none

mutual
def rd : (s : Sh) → AV → Option (ShD s)
  | .undef, v => fit (isUndef v)
  | .nil, v => fit (isNil v)
  | .int k, v => rdInt k v
  | .bool, v => rdBool v
  | .str, v => rdStr v
  | .sl e, v => rdSl e v
  | .sln e, v => rdSln e v
  | .dat t, v => (datCells t v).bind fun cs => collapse t cs
  | .ptr id off, v => fit (isPtr id off v)
  | .row id, v => fit (isRow id v)
  | .eptr id sz i off, v => fit (isEptr id sz i off v)
  | .view cs off, v => (viewOf off v).bind fun vs => rds cs vs
  | .clo f a b, v => (cloOf f v).bind fun p => (rds a p.1).bind fun x => (rds b p.2).map fun y => (x, y)
  | .agg cs, v => (aggOf v).bind fun vs => rds cs vs
  | .tup cs, v => (tupOf v).bind fun vs => rds cs vs
def rds : (s : List Sh) → List AV → Option (ShDs s)
  | [], vs => match vs with
    | [] => some ()
    | _ :: _ => none
  | s :: r, vs => match vs with
    | [] => none
    | v :: w => (rd s v).bind fun x => (rds r w).map fun y => (x, y)
end

mutual
/-- Without data that may be written in several ways. -/
def strict : Sh → Bool
  | .undef => true
  | .nil => true
  | .int _ => true
  | .bool => true
  | .str => true
  | .sl _ => true
  | .sln _ => false
  | .dat _ => false
  | .ptr _ _ => true
  | .row _ => true
  | .eptr _ _ _ _ => true
  | .view cs _ => stricts cs
  | .clo _ a b => stricts a && stricts b
  | .agg cs => stricts cs
  | .tup cs => stricts cs
def stricts : List Sh → Bool
  | [] => true
  | s :: r => strict s && stricts r
end

mutual
/-- Without names. -/
def free : Sh → Bool
  | .undef => true
  | .nil => true
  | .int _ => true
  | .bool => true
  | .str => true
  | .sl _ => true
  | .sln _ => true
  | .dat _ => true
  | .ptr _ _ => false
  | .row _ => false
  | .eptr _ _ _ _ => false
  | .view cs _ => frees cs
  | .clo _ a b => frees a && frees b
  | .agg cs => frees cs
  | .tup cs => frees cs
def frees : List Sh → Bool
  | [] => true
  | s :: r => free s && frees r
end

theorem fit_some {b : Bool} {u : Unit} (e : fit b = some u) : b = true := by
  cases b
  · cases e
  · rfl

mutual
theorem rd_some : ∀ (s : Sh) (v : AV) (d : ShD s), strict s = true → rd s v = some d → v = mk s d
  | .undef, v, d, _, e => by
    have := fit_some e
    cases v <;> first | rfl | cases this
  | .nil, v, d, _, e => by
    have := fit_some e
    cases v <;> first | rfl | cases this
  | .int k, v, d, _, e => by
    simp only [rd] at e
    cases v <;> simp only [rdInt] at e <;> first | cases e | skip
    split at e
    · rename_i h; subst h; cases e; rfl
    · cases e
  | .bool, v, d, _, e => by
    simp only [rd] at e
    cases v <;> simp only [rdBool] at e <;> first | (cases e; rfl) | cases e
  | .str, v, d, _, e => by
    simp only [rd] at e
    cases v <;> simp only [rdStr] at e <;> first | (cases e; rfl) | cases e
  | .sl t, v, d, _, e => by
    simp only [rd] at e
    cases v <;> simp only [rdSl] at e <;> first | cases e | skip
    obtain ⟨rfl, h⟩ := castL_eq e
    simp only at h
    subst h
    rfl
  | .dat t, v, d, h, e => nomatch h
  | .sln t, v, d, h, e => nomatch h
  | .ptr id off, v, d, _, e => by
    have := fit_some e
    cases v <;> simp only [isPtr] at this <;> first | cases this | skip
    simp only [Bool.and_eq_true] at this
    rw [nb_iff.1 this.1, nb_iff.1 this.2]; rfl
  | .row id, v, d, _, e => by
    have := fit_some e
    cases v <;> simp only [isRow] at this <;> first | cases this | skip
    rw [nb_iff.1 this]; rfl
  | .eptr id sz i off, v, d, _, e => by
    have := fit_some e
    cases v <;> simp only [isEptr] at this <;> first | cases this | skip
    simp only [Bool.and_eq_true] at this
    rw [nb_iff.1 this.1.1.1, nb_iff.1 this.1.1.2, nb_iff.1 this.1.2, nb_iff.1 this.2]; rfl
  | .view cs off, v, d, h, e => by
    simp only [rd] at e
    obtain ⟨vs, e1, e2⟩ := Option.bind_eq_some_iff.1 e
    cases v <;> simp only [viewOf] at e1 <;> first | cases e1 | skip
    rename_i c o
    cases ho : Nat.beq o off <;> rw [ho] at e1
    · cases e1
    · cases e1
      rw [nb_iff.1 ho, rds_some cs _ d h e2]; rfl
  | .clo f a b, v, d, h, e => by
    simp only [rd] at e
    obtain ⟨p, e1, e2⟩ := Option.bind_eq_some_iff.1 e
    obtain ⟨x, e3, e4⟩ := Option.bind_eq_some_iff.1 e2
    obtain ⟨y, e5, e6⟩ := Option.map_eq_some_iff.1 e4
    simp only [strict, Bool.and_eq_true] at h
    cases v <;> simp only [cloOf] at e1 <;> first | cases e1 | skip
    rename_i g c1 c2
    cases ho : Nat.beq g f <;> rw [ho] at e1
    · cases e1
    · cases e1
      subst e6
      simp only at e3 e5
      rw [nb_iff.1 ho, rds_some a _ x h.1 e3, rds_some b _ y h.2 e5]; rfl
  | .agg cs, v, d, h, e => by
    simp only [rd] at e
    obtain ⟨vs, e1, e2⟩ := Option.bind_eq_some_iff.1 e
    cases v <;> simp only [aggOf] at e1 <;> first | cases e1 | skip
    rw [rds_some cs _ d h e2]; rfl
  | .tup cs, v, d, h, e => by
    simp only [rd] at e
    obtain ⟨vs, e1, e2⟩ := Option.bind_eq_some_iff.1 e
    cases v <;> simp only [tupOf] at e1 <;> first | cases e1 | skip
    rw [rds_some cs _ d h e2]; rfl
theorem rds_some : ∀ (s : List Sh) (vs : List AV) (d : ShDs s), stricts s = true → rds s vs = some d → vs = mks s d
  | [], vs, d, _, e => by
    cases vs
    · rfl
    · cases e
  | s :: r, vs, d, h, e => by
    simp only [stricts, Bool.and_eq_true] at h
    cases vs with
    | nil => cases e
    | cons v w =>
      simp only [rds] at e
      obtain ⟨x, e1, e2⟩ := Option.bind_eq_some_iff.1 e
      obtain ⟨y, e3, e4⟩ := Option.map_eq_some_iff.1 e2
      subst e4
      rw [rd_some s v x h.1 e1, rds_some r w y h.2 e3]; rfl
end

theorem datCells_cells {t : Ty} {v : AV} {cs : List AV} (e : datCells t v = some cs) : cellsOf v = some cs := by
  unfold datCells at e
  split at e
  · cases h : isSt t <;> rw [h] at e <;> cases e; rfl
  · cases e
  · cases e
  · rename_i v h1 h2 h3
    cases h : isSt t <;> rw [h] at e <;> cases e
    unfold cellsOf
    split <;> simp_all
theorem dat_rep {hdr : Nat → Value} {S : Stb} {t : Ty} {v : AV} {u : Value} {d : D t} (h : VRep hdr S v u) (e : (datCells t v).bind (fun cs => collapse t cs) = some d) : VRep hdr S (pack t (expand t d)) u := by
  obtain ⟨cs, e1, e2⟩ := Option.bind_eq_some_iff.1 e
  have hc := cellsOf_rep h (datCells_cells e1)
  have hd := collapse_rep hc e2
  have hx := pack_rep t (hd.expand (hdr := hdr))
  suffices packV t u.cells.toList = u by rwa [this] at hx
  cases h with
  | agg cs vs hr =>
    cases q : isSt t <;> simp only [datCells, q] at e1
    · cases e1
    · simp [packV, q, Value.cells]
  | undef => cases e1
  | tup => cases e1
  | sl e l v h =>
    cases q : isSt t <;> simp only [datCells, q] at e1
    · cases h <;> simp [packV, q, Value.cells]
    · cases e1
  | _ =>
    cases q : isSt t <;> simp only [datCells, q] at e1
    · simp [packV, q, Value.cells]
    · cases e1

mutual
theorem rd_rep {hdr : Nat → Value} {S : Stb} : ∀ (s : Sh) (v : AV) (d : ShD s) (u : Value), rd s v = some d → VRep hdr S v u → VRep hdr S (mk s d) u
  | .dat t, v, d, u, e, h => dat_rep h e
  | .sln t, v, d, u, e, h => by
    simp only [rd] at e
    cases v <;> simp only [rdSln] at e <;> first | cases e | skip
    · cases h with | nil ao => exact .sl _ _ _ (.slNil _ ao 0)
    · obtain ⟨rfl, hh⟩ := castL_eq e
      simp only at hh
      subst hh
      exact h
  | .undef, v, d, u, e, h => by have := rd_some .undef v d rfl e; rwa [← this]
  | .nil, v, d, u, e, h => by have := rd_some .nil v d rfl e; rwa [← this]
  | .int k, v, d, u, e, h => by have := rd_some (.int k) v d rfl e; rwa [← this]
  | .bool, v, d, u, e, h => by have := rd_some .bool v d rfl e; rwa [← this]
  | .str, v, d, u, e, h => by have := rd_some .str v d rfl e; rwa [← this]
  | .sl t, v, d, u, e, h => by have := rd_some (.sl t) v d rfl e; rwa [← this]
  | .ptr a b, v, d, u, e, h => by have := rd_some (.ptr a b) v d rfl e; rwa [← this]
  | .row a, v, d, u, e, h => by have := rd_some (.row a) v d rfl e; rwa [← this]
  | .eptr a b c g, v, d, u, e, h => by have := rd_some (.eptr a b c g) v d rfl e; rwa [← this]
  | .view cs off, v, d, u, e, h => by
    simp only [rd] at e
    obtain ⟨vs, e1, e2⟩ := Option.bind_eq_some_iff.1 e
    cases v <;> simp only [viewOf] at e1 <;> first | cases e1 | skip
    rename_i c o
    cases ho : Nat.beq o off <;> rw [ho] at e1
    · cases e1
    · cases e1
      obtain rfl := nb_iff.1 ho
      cases h with | view _ us _ b o2 cells hS hc hr => exact .view _ us _ b o2 cells hS hc (rds_rep cs _ d us e2 hr)
  | .clo f a b, v, d, u, e, h => by
    simp only [rd] at e
    obtain ⟨p, e1, e2⟩ := Option.bind_eq_some_iff.1 e
    obtain ⟨x, e3, e4⟩ := Option.bind_eq_some_iff.1 e2
    obtain ⟨y, e5, e6⟩ := Option.map_eq_some_iff.1 e4
    cases v <;> simp only [cloOf] at e1 <;> first | cases e1 | skip
    rename_i g c1 c2
    cases ho : Nat.beq g f <;> rw [ho] at e1
    · cases e1
    · cases e1
      subst e6
      obtain rfl := nb_iff.1 ho
      cases h with | clo _ _ _ fs cs h1 h2 => exact .clo _ _ _ fs cs (rds_rep a _ x fs e3 h1) (rds_rep b _ y cs e5 h2)
  | .agg cs, v, d, u, e, h => by
    simp only [rd] at e
    obtain ⟨vs, e1, e2⟩ := Option.bind_eq_some_iff.1 e
    cases v <;> simp only [aggOf] at e1 <;> first | cases e1 | skip
    cases h with | agg _ us hr => exact .agg _ us (rds_rep cs _ d us e2 hr)
  | .tup cs, v, d, u, e, h => by
    simp only [rd] at e
    obtain ⟨vs, e1, e2⟩ := Option.bind_eq_some_iff.1 e
    cases v <;> simp only [tupOf] at e1 <;> first | cases e1 | skip
    cases h with | tup _ us hr => exact .tup _ us (rds_rep cs _ d us e2 hr)
theorem rds_rep {hdr : Nat → Value} {S : Stb} : ∀ (s : List Sh) (vs : List AV) (d : ShDs s) (us : List Value), rds s vs = some d → VReps hdr S vs us → VReps hdr S (mks s d) us
  | [], vs, d, us, e, h => by
    cases vs
    · exact h
    · cases e
  | s :: r, vs, d, us, e, h => by
    cases h with
    | nil => cases e
    | cons v u w us h1 h2 =>
      simp only [rds] at e
      obtain ⟨x, e1, e2⟩ := Option.bind_eq_some_iff.1 e
      obtain ⟨y, e3, e4⟩ := Option.map_eq_some_iff.1 e2
      subst e4
      exact .cons _ _ _ _ (rd_rep s v x u e1 h1) (rds_rep r w y us e3 h2)
end

mutual
theorem mk_ids : ∀ (s : Sh) (d : ShD s), free s = true → (mk s d).ids = []
  | .dat t, d, _ => pack_ids0 t d
  | .sln t, d, _ => rfl
  | .undef, d, _ => rfl
  | .nil, d, _ => rfl
  | .int k, d, _ => rfl
  | .bool, d, _ => rfl
  | .str, d, _ => rfl
  | .sl t, d, _ => rfl
  | .ptr a b, d, h => nomatch h
  | .row a, d, h => nomatch h
  | .eptr a b c g, d, h => nomatch h
  | .view cs off, d, h => by simp only [mk, AV.ids]; exact mks_ids cs d h
  | .clo f a b, d, h => by
    simp only [free, Bool.and_eq_true] at h
    simp only [mk, AV.ids, mks_ids a d.1 h.1, mks_ids b d.2 h.2]; rfl
  | .agg cs, d, h => by simp only [mk, AV.ids]; exact mks_ids cs d h
  | .tup cs, d, h => by simp only [mk, AV.ids]; exact mks_ids cs d h
theorem mks_ids : ∀ (s : List Sh) (d : ShDs s), frees s = true → AV.idsL (mks s d) = []
  | [], d, _ => rfl
  | s :: r, d, h => by
    simp only [frees, Bool.and_eq_true] at h
    simp only [mks, AV.idsL, mk_ids s d.1 h.1, mks_ids r d.2 h.2]; rfl
end

theorem take1_ids : ∀ (t : Ty) (cs : List AV) (x : D t × List AV), take1 t cs = some x → AV.idsL cs = AV.idsL x.2
  | .int k, cs, x, e => by
    simp only [take1, tInt] at e
    split at e
    · split at e
      · cases e; rfl
      · cases e
    · cases e
  | .bool, cs, x, e => by
    simp only [take1, tBool] at e
    split at e
    · cases e; rfl
    · cases e
  | .str, cs, x, e => by
    simp only [take1, tStr] at e
    split at e
    · cases e; rfl
    · cases e
  | .sl t, cs, x, e => by
    simp only [take1, tSl] at e
    split at e
    · obtain ⟨y, _, e2⟩ := Option.bind_eq_some_iff.1 e
      cases e2; rfl
    · cases e; rfl
    · cases e
  | .mu n, cs, x, e => nomatch e
  | .st f, cs, x, e => take1_ids f cs x e
  | .pair a b, cs, x, e => by
    simp only [take1] at e
    obtain ⟨y, e1, e2⟩ := Option.bind_eq_some_iff.1 e
    obtain ⟨z, e3, e4⟩ := Option.bind_eq_some_iff.1 e2
    cases e4
    exact (take1_ids a cs y e1).trans (take1_ids b y.2 z e3)
theorem collapse_ids {t : Ty} {cs : List AV} {d : D t} (e : collapse t cs = some d) : AV.idsL cs = [] := by
  unfold collapse at e
  split at e
  · rename_i d' h
    exact take1_ids t cs _ h
  · cases e
theorem dat_ids {t : Ty} {v : AV} {d : D t} (e : (datCells t v).bind (fun cs => collapse t cs) = some d) : v.ids = [] := by
  obtain ⟨cs, e1, e2⟩ := Option.bind_eq_some_iff.1 e
  have hc : AV.idsL cs = [] := collapse_ids e2
  unfold datCells at e1
  split at e1
  · cases h : isSt t <;> rw [h] at e1 <;> cases e1; simpa [AV.ids] using hc
  · cases e1
  · cases e1
  · cases h : isSt t <;> rw [h] at e1 <;> cases e1
    simpa [AV.idsL] using hc

mutual
theorem rd_ids : ∀ (s : Sh) (v : AV) (d : ShD s), free s = true → rd s v = some d → v.ids = []
  | .dat t, v, d, _, e => dat_ids e
  | .sln t, v, d, _, e => by
    simp only [rd] at e
    cases v <;> simp only [rdSln] at e <;> first | rfl | (cases e; rfl) | cases e
  | .undef, v, d, _, e => by have := rd_some .undef v d rfl e; rw [this]; rfl
  | .nil, v, d, _, e => by have := rd_some .nil v d rfl e; rw [this]; rfl
  | .int k, v, d, _, e => by have := rd_some (.int k) v d rfl e; rw [this]; rfl
  | .bool, v, d, _, e => by have := rd_some .bool v d rfl e; rw [this]; rfl
  | .str, v, d, _, e => by have := rd_some .str v d rfl e; rw [this]; rfl
  | .sl t, v, d, _, e => by have := rd_some (.sl t) v d rfl e; rw [this]; rfl
  | .ptr a b, v, d, h, e => nomatch h
  | .row a, v, d, h, e => nomatch h
  | .eptr a b c g, v, d, h, e => nomatch h
  | .view cs off, v, d, h, e => by
    simp only [rd] at e
    obtain ⟨vs, e1, e2⟩ := Option.bind_eq_some_iff.1 e
    cases v <;> simp only [viewOf] at e1 <;> first | cases e1 | skip
    rename_i c o
    cases ho : Nat.beq o off <;> rw [ho] at e1
    · cases e1
    · cases e1
      simpa [AV.ids] using rds_ids cs _ d h e2
  | .clo f a b, v, d, h, e => by
    simp only [rd] at e
    obtain ⟨p, e1, e2⟩ := Option.bind_eq_some_iff.1 e
    obtain ⟨x, e3, e4⟩ := Option.bind_eq_some_iff.1 e2
    obtain ⟨y, e5, e6⟩ := Option.map_eq_some_iff.1 e4
    simp only [free, Bool.and_eq_true] at h
    cases v <;> simp only [cloOf] at e1 <;> first | cases e1 | skip
    rename_i g c1 c2
    cases ho : Nat.beq g f <;> rw [ho] at e1
    · cases e1
    · cases e1
      simp only at e3 e5
      simp only [AV.ids, rds_ids a _ x h.1 e3, rds_ids b _ y h.2 e5]; rfl
  | .agg cs, v, d, h, e => by
    simp only [rd] at e
    obtain ⟨vs, e1, e2⟩ := Option.bind_eq_some_iff.1 e
    cases v <;> simp only [aggOf] at e1 <;> first | cases e1 | skip
    simpa [AV.ids] using rds_ids cs _ d h e2
  | .tup cs, v, d, h, e => by
    simp only [rd] at e
    obtain ⟨vs, e1, e2⟩ := Option.bind_eq_some_iff.1 e
    cases v <;> simp only [tupOf] at e1 <;> first | cases e1 | skip
    simpa [AV.ids] using rds_ids cs _ d h e2
theorem rds_ids : ∀ (s : List Sh) (vs : List AV) (d : ShDs s), frees s = true → rds s vs = some d → AV.idsL vs = []
  | [], vs, d, _, e => by
    cases vs
    · rfl
    · cases e
  | s :: r, vs, d, h, e => by
    simp only [frees, Bool.and_eq_true] at h
    cases vs with
    | nil => cases e
    | cons v w =>
      simp only [rds] at e
      obtain ⟨x, e1, e2⟩ := Option.bind_eq_some_iff.1 e
      obtain ⟨y, e3, e4⟩ := Option.map_eq_some_iff.1 e2
      simp only [AV.idsL, rd_ids s v x h.1 e1, rds_ids r w y h.2 e3]; rfl
end
end
end Go.Proofs.YtmjbedjnojcmfaaGreatDoor.Ex

namespace Go.Proofs.YtmjbedjnojcmfaaGreatDoor.Ex
set_option linter.unusedSectionVars false
set_option linter.unusedVariables false
section
variable [RT] {P : Program} {cx : Ctx} {cal : FuncId → List AV → Prog AV}

def BShD : BSh → Type
  | .box cs => ShDs cs
  | .row e => List (D e)
def mkB : (s : BSh) → BShD s → Blk
  | .box cs, d => .box (mks cs d)
  | .row e, d => .row e d
def rdRow (e : Ty) : Blk → Option (List (D e))
  | .row e' l => castL e' e l
  | _ => none
def rdBox : Blk → Option (List AV)
  | .box cs => some cs
  | _ => none
def rdB : (s : BSh) → Blk → Option (BShD s)
  | .box cs, b => (rdBox b).bind fun vs => rds cs vs
  | .row e, b => rdRow e b
def TShD : List (Nat × Sh) → Type
  | [] => Unit
  | s :: r => ShD s.2 × TShD r
def mkT : (s : List (Nat × Sh)) → TShD s → Tm
  | [], _ => []
  | s :: r, d => (s.1, mk s.2 d.1) :: mkT r d.2
def rdT : (s : List (Nat × Sh)) → Tm → Option (TShD s)
  | [], T => match T with
    | [] => some ()
    | _ :: _ => none
  | s :: r, T => match T with
    | [] => none
    | x :: T => bif x.1.beq s.1 then (rd s.2 x.2).bind fun a => (rdT r T).map fun b => (a, b) else none
def HShD : List (Nat × BSh) → Type
  | [] => Unit
  | s :: r => BShD s.2 × HShD r
def mkH : (s : List (Nat × BSh)) → HShD s → List (Nat × Blk)
  | [], _ => []
  | s :: r, d => (s.1, mkB s.2 d.1) :: mkH r d.2
def rdH : (s : List (Nat × BSh)) → List (Nat × Blk) → Option (HShD s)
  | [], T => match T with
    | [] => some ()
    | _ :: _ => none
  | s :: r, T => match T with
    | [] => none
    | x :: T => bif x.1.beq s.1 then (rdB s.2 x.2).bind fun a => (rdH r T).map fun b => (a, b) else none

structure StS where
  T : List (Nat × Sh)
  H : List (Nat × BSh)
  c : Nat
def StD (s : StS) : Type := TShD s.T × HShD s.H
def rdS (s : StS) (T : Tm) (h : Hp) : Option (StD s) := (rdT s.T T).bind fun a => (rdH s.H h.blks).bind fun b => bif h.c.beq s.c then some (a, b) else none
def sT (s : StS) (d : StD s) : Tm := mkT s.T d.1
def sH (s : StS) (d : StD s) : Hp := ⟨mkH s.H d.2, s.c⟩
def strictT : List (Nat × Sh) → Bool
  | [] => true
  | s :: r => strict s.2 && strictT r
def strictB : BSh → Bool
  | .box cs => stricts cs
  | .row _ => true
def strictH : List (Nat × BSh) → Bool
  | [] => true
  | s :: r => strictB s.2 && strictH r
def strictS (s : StS) : Bool := strictT s.T && strictH s.H

theorem rdB_some {s : BSh} {b : Blk} {d : BShD s} (hs : strictB s = true) (e : rdB s b = some d) : b = mkB s d := by
  cases s with
  | box cs =>
    simp only [rdB] at e
    obtain ⟨vs, e1, e2⟩ := Option.bind_eq_some_iff.1 e
    cases b <;> simp only [rdBox] at e1 <;> cases e1
    rw [rds_some cs _ d hs e2]; rfl
  | row t =>
    simp only [rdB] at e
    cases b <;> simp only [rdRow] at e <;> first | cases e | skip
    obtain ⟨rfl, h⟩ := castL_eq e
    simp only at h
    subst h
    rfl
theorem rdT_some : ∀ {s : List (Nat × Sh)} {T : Tm} {d : TShD s}, strictT s = true → rdT s T = some d → T = mkT s d
  | [], T, d, _, e => by
    cases T
    · rfl
    · cases e
  | s :: r, T, d, h, e => by
    simp only [strictT, Bool.and_eq_true] at h
    cases T with
    | nil => cases e
    | cons x T =>
      simp only [rdT] at e
      cases hb : Nat.beq x.1 s.1 <;> rw [hb] at e
      · cases e
      · obtain ⟨a, e1, e2⟩ := Option.bind_eq_some_iff.1 e
        obtain ⟨b, e3, e4⟩ := Option.map_eq_some_iff.1 e2
        subst e4
        obtain ⟨n, v⟩ := x
        simp only at hb e1
        rw [nb_iff.1 hb, rd_some _ _ a h.1 e1, rdT_some h.2 e3]; rfl
theorem rdH_some : ∀ {s : List (Nat × BSh)} {T : List (Nat × Blk)} {d : HShD s}, strictH s = true → rdH s T = some d → T = mkH s d
  | [], T, d, _, e => by
    cases T
    · rfl
    · cases e
  | s :: r, T, d, h, e => by
    simp only [strictH, Bool.and_eq_true] at h
    cases T with
    | nil => cases e
    | cons x T =>
      simp only [rdH] at e
      cases hb : Nat.beq x.1 s.1 <;> rw [hb] at e
      · cases e
      · obtain ⟨a, e1, e2⟩ := Option.bind_eq_some_iff.1 e
        obtain ⟨b, e3, e4⟩ := Option.map_eq_some_iff.1 e2
        subst e4
        obtain ⟨n, v⟩ := x
        simp only at hb e1
        rw [nb_iff.1 hb, rdB_some h.1 e1, rdH_some h.2 e3]; rfl
theorem rdS_some {s : StS} {T : Tm} {h : Hp} {d : StD s} (hs : strictS s = true) (e : rdS s T h = some d) : T = sT s d ∧ h = sH s d := by
  unfold rdS at e
  simp only [strictS, Bool.and_eq_true] at hs
  obtain ⟨a, e1, e2⟩ := Option.bind_eq_some_iff.1 e
  obtain ⟨b, e3, e4⟩ := Option.bind_eq_some_iff.1 e2
  cases hb : Nat.beq h.c s.c <;> rw [hb] at e4
  · cases e4
  · cases e4
    refine ⟨rdT_some hs.1 e1, ?_⟩
    obtain ⟨bs, c⟩ := h
    simp only at e3 hb
    rw [rdH_some hs.2 e3, nb_iff.1 hb]; rfl

def iterK (base : Nat) (keep : Nat → List Nat) (f : Tm → Prog (Nat × Tm)) : Nat → Tm → Prog (Nat × Tm)
  | 0, _ => .fail
  | n + 1, T => (f T).bind fun e => .norm base (keep e.1) e.2 fun T' => match e.1 with
    | 0 => iterK base keep f n T'
    | _ => .ret (e.1, T')

theorem iterK_sound (hcx : TabOk P cx.tab) (hcmp : CmpsOk P cx.tab) (hcal : CalOk P cal) (hmd : P.follows .mixedOrders = true) {id n : Nat} {kp : List Nat} {keep : Nat → List Nat} {x : Code} {b : Nat}
    (hl : ∀ q ∈ loopsOf b x, ∀ p, cx.lps id q.1 = some p → SoundC P n (.loop q.2) p) (m : Nat) :
    SoundC P n (.loop x) fun base T => .norm base (keep 0) T fun T1 => iterK base keep (evC cx cal ⟨id, n, kp, base⟩ b x) m T1 := by
  intro tr ok hdr0 S0 h0 w0 a0 h T hdr S a w f e T' h' f' Q l hn ev hO hK
  obtain ⟨T1, h1, hdr1, rfl, l1, ev0⟩ := l.normed ev
  refine wp_loop_rounds m ?_
  clear l ev
  have ev := ev0
  clear ev0
  induction m generalizing h1 T1 hdr1 S a w f with
  | zero => exact (ex_fail ev).elim
  | succ m ih =>
    simp only [iterK] at ev
    obtain ⟨⟨e2, T2⟩, h2, f2, ev1, ev2⟩ := ex_bind_some ev
    rw [rounds_succ]
    refine evC_sound (h0 := h0) (a0 := a0) hcx hcmp hcal hmd (fx := ⟨id, n, kp, h0.c⟩) x b hl h1 T1 hdr1 S a w f e2 T2 h2 f2 _ rfl hn l1 ev1 (fun id k => (hO id k).less fun ht => by cases ht) fun hdr3 S3 a3 w3 l3 => ?_
    obtain ⟨T4, h4, hdr4, _, l4, e4⟩ := l3.normed ev2
    match e2, e4 with
    | 0, e4 => exact ih S3 a3 w3 f2 T4 h4 hdr4 l4 e4
    | 1, e4 => cases ex_ret e4; exact hK _ _ _ _ l4
    | k + 2, e4 => cases ex_ret e4; exact hK _ _ _ _ l4

def roundK {R : Type} (base : Nat) (keep : Nat → List Nat) (f : Tm → Prog (Nat × Tm)) (T : Tm) (h : Hp) (K : Nat → Tm → Hp → Option R) : Option R :=
  run ((f T).bind fun e => .norm base (keep e.1) e.2 fun T' => .ret (e.1, T')) false h ⟨[], []⟩ fun r h _ => K r.1 r.2 h

theorem roundK_eq {R : Type} (base : Nat) (keep : Nat → List Nat) (f : Tm → Prog (Nat × Tm)) (T : Tm) (h : Hp) (K : Nat → Tm → Hp → Option R) :
    roundK base keep f T h K = (roundK base keep f T h fun c T h => some (c, T, h)).bind fun r => K r.1 r.2.1 r.2.2 := by
  unfold roundK
  rw [run_ex]
  conv => rhs; rw [run_ex]
  rw [Option.bind_assoc]
  rfl

theorem iterK_go (base : Nat) (keep : Nat → List Nat) (f : Tm → Prog (Nat × Tm)) (n : Nat) (T : Tm) (h : Hp) :
    go (iterK base keep f (n + 1) T) h = roundK base keep f T h fun e T' h' => match e with
      | 0 => go (iterK base keep f n T') h'
      | _ => some ((e, T'), h') := by
  unfold go roundK
  rw [iterK, run_bind, run_bind]
  congr 1
  funext e h1 f1
  simp only [run]
  cases (nodupN (normOrder base (keep e.1) e.2 h1.blks) && leB base h1.c)
  · rfl
  · simp only [cond_false, cond_true]
    obtain ⟨e1, T1⟩ := e
    cases e1 with
    | zero => exact run_foot _ _ _ _ (fun a h => some (a, h))
    | succ n => rfl

theorem loopK_sound (hcx : TabOk P cx.tab) (hcmp : CmpsOk P cx.tab) (hcal : CalOk P cal) (hmd : P.follows .mixedOrders = true) {id n : Nat} {kp : List Nat} {keep : Nat → List Nat} {x : Code} {b : Nat}
    (hl : ∀ q ∈ loopsOf b x, ∀ p, cx.lps id q.1 = some p → SoundC P n (.loop q.2) p) {q : Nat → Tm → Prog (Nat × Tm)}
    (hG : ∀ base T h r h', go (q base T) h = some (r, h') → ∃ m, go (iterK base keep (evC cx cal ⟨id, n, kp, base⟩ b x) m T) h = some (r, h')) :
    SoundC P n (.loop x) fun base T => .norm base (keep 0) T (q base) := by
  refine SoundC.weaken fun base T tr h f r h' f' e => ?_
  obtain ⟨rfl, hn, e1⟩ := ex_norm e
  have e2 := e1
  unfold ex at e2
  rw [run_ex] at e2
  have e3 : go (q base (keepT (renOf base (normOrder base (keep 0) T h.blks)) T (keep 0))) ⟨extB base (renOf base (normOrder base (keep 0) T h.blks)) h.blks ++ newB (renOf base (normOrder base (keep 0) T h.blks)) h.blks base (normOrder base (keep 0) T h.blks), base + (normOrder base (keep 0) T h.blks).length⟩ = some (r, h') := by
    unfold go
    rw [run_foot _ _ ⟨[], []⟩ f (fun a h => some (a, h)), run_ex, e1]; rfl
  obtain ⟨m, e4⟩ := hG _ _ _ _ _ e3
  obtain ⟨f2, e5⟩ := go_ex e4 f
  refine ⟨_, f2, iterK_sound (keep := keep) (kp := kp) hcx hcmp hcal hmd hl m, ?_⟩
  unfold ex at e ⊢
  simp only [run, cond_false] at e ⊢
  cases q : (nodupN (normOrder base (keep 0) T h.blks) && leB base h.c) <;> rw [q] at e
  · cases e
  · simp only [cond_true]
    exact e5

def iterO {X Y : Type} (step : X → Option (X ⊕ Y)) : Nat → X → Option Y
  | 0, _ => none
  | n + 1, x => match step x with
    | some (.inl x') => iterO step n x'
    | some (.inr y) => some y
    | none => none

def rdO {X Y : Type} (get : Tm → Hp → Option X) (getY : Nat → Tm → Hp → Option Y) (c : Nat) (T : Tm) (h : Hp) : Option (X ⊕ Y) :=
  bif c.beq 0 then (get T h).map .inl else (getY c T h).map .inr

theorem iterO_go {X Y : Type} {base : Nat} {keep : Nat → List Nat} {F : Tm → Prog (Nat × Tm)} {putT : X → Tm} {putH : X → Hp} {get : Tm → Hp → Option X} {getY : Nat → Tm → Hp → Option Y} {outY : Y → (Nat × Tm) × Hp}
    (hget : ∀ T h x, get T h = some x → T = putT x ∧ h = putH x) (hY : ∀ c T h y, getY c T h = some y → ((c, T), h) = outY y) {step : X → Option (X ⊕ Y)}
    (hs : ∀ x, roundK base keep F (putT x) (putH x) (rdO get getY) = step x) : ∀ (n : Nat) (x : X) (y : Y), iterO step n x = some y → go (iterK base keep F n (putT x)) (putH x) = some (outY y)
  | 0, x, y, e => nomatch e
  | n + 1, x, y, e => by
    rw [iterK_go, roundK_eq]
    have h1 := hs x
    rw [roundK_eq] at h1
    rw [iterO] at e
    cases hr : roundK base keep F (putT x) (putH x) fun c T h => some (c, T, h) with
    | none => rw [hr] at h1; rw [← h1] at e; cases e
    | some r =>
      obtain ⟨c, T, h⟩ := r
      rw [hr] at h1
      simp only [Option.bind_some] at h1 ⊢
      cases c with
      | zero =>
        simp only [rdO, show Nat.beq 0 0 = true from rfl, cond_true] at h1
        cases hg : get T h with
        | none => rw [hg] at h1; rw [← h1] at e; cases e
        | some x' =>
          rw [hg] at h1
          rw [← h1] at e
          obtain ⟨rfl, rfl⟩ := hget T h x' hg
          exact iterO_go hget hY hs n x' y e
      | succ c =>
        simp only [rdO, show Nat.beq (c + 1) 0 = false from rfl, cond_false] at h1
        cases hg : getY (c + 1) T h with
        | none => rw [hg] at h1; rw [← h1] at e; cases e
        | some y' =>
          rw [hg] at h1
          rw [← h1] at e
          cases e
          rw [← hY _ _ _ _ hg]; rfl

def getE {Y : Type} (code : Nat) (s : StS) (flat : StD s → Y) (c : Nat) (T : Tm) (h : Hp) : Option Y := bif c.beq code then (rdS s T h).map flat else none
def getOr {A B : Type} (g1 : Nat → Tm → Hp → Option A) (g2 : Nat → Tm → Hp → Option B) (c : Nat) (T : Tm) (h : Hp) : Option (A ⊕ B) := match g1 c T h with
  | some a => some (.inl a)
  | none => (g2 c T h).map .inr
def outE {Y : Type} (code : Nat) (s : StS) (un : Y → StD s) (y : Y) : (Nat × Tm) × Hp := ((code, sT s (un y)), sH s (un y))
def altE {Y : Type} (code : Nat) (s : StS) (un : Y → StD s) (y : Y) : Prog (Nat × Tm) := .glob (fun _ => some (outE code s un y)) .ret
theorem getE_ok {Y : Type} {code : Nat} {s : StS} {flat : StD s → Y} {un : Y → StD s} (hs : strictS s = true) (hu : ∀ d, un (flat d) = d) (c : Nat) (T : Tm) (h : Hp) (y : Y) (e : getE code s flat c T h = some y) : ((c, T), h) = outE code s un y := by
  unfold getE at e
  cases hb : Nat.beq c code <;> rw [hb] at e
  · cases e
  · obtain ⟨d, e1, rfl⟩ := Option.map_eq_some_iff.1 e
    obtain ⟨rfl, rfl⟩ := rdS_some hs e1
    unfold outE
    rw [hu, nb_iff.1 hb]
theorem getOr_ok {A B : Type} {g1 : Nat → Tm → Hp → Option A} {g2 : Nat → Tm → Hp → Option B} {o1 : A → (Nat × Tm) × Hp} {o2 : B → (Nat × Tm) × Hp} (h1 : ∀ c T h y, g1 c T h = some y → ((c, T), h) = o1 y) (h2 : ∀ c T h y, g2 c T h = some y → ((c, T), h) = o2 y)
    (c : Nat) (T : Tm) (h : Hp) (y : A ⊕ B) (e : getOr g1 g2 c T h = some y) : ((c, T), h) = Sum.elim o1 o2 y := by
  unfold getOr at e
  split at e
  · rename_i a ha; cases e; exact h1 _ _ _ _ ha
  · obtain ⟨b, e1, rfl⟩ := Option.map_eq_some_iff.1 e
    exact h2 _ _ _ _ e1
def AltOk {Y : Type} (alt : Y → Prog (Nat × Tm)) (out : Y → (Nat × Tm) × Hp) : Prop := ∀ y h r, go (alt y) h = some r → r = out y
theorem altE_ok {Y : Type} (code : Nat) (s : StS) (un : Y → StD s) : AltOk (altE code s un) (outE code s un) := by
  intro y h r e
  unfold go altE at e
  simp only [run, cond_false, Option.bind_some] at e
  exact (Option.some.inj e).symm
theorem altOr_ok {A B : Type} {a1 : A → Prog (Nat × Tm)} {a2 : B → Prog (Nat × Tm)} {o1 : A → (Nat × Tm) × Hp} {o2 : B → (Nat × Tm) × Hp} (h1 : AltOk a1 o1) (h2 : AltOk a2 o2) : AltOk (fun y => .alt y a1 a2) (Sum.elim o1 o2) := by
  intro y h r e
  unfold go at e
  simp only [run] at e
  cases y with
  | inl a => exact h1 a h r e
  | inr a => exact h2 a h r e

def varP {X Y : Type} (base0 : Nat) (get : Tm → Hp → Option X) (L : X → Option Y) (alt : Y → Prog (Nat × Tm)) (next : Nat → Tm → Prog (Nat × Tm)) (base : Nat) (T : Tm) : Prog (Nat × Tm) :=
  bif base.beq base0 then .glob (fun h => some (get T h, h)) fun o => match o with
    | some x => .opt (L x) alt
    | none => next base T
  else next base T
def VarOk (keep : Nat → List Nat) (F : Nat → Tm → Prog (Nat × Tm)) (q : Nat → Tm → Prog (Nat × Tm)) : Prop :=
  ∀ base T h r h', go (q base T) h = some (r, h') → ∃ m, go (iterK base keep (F base) m T) h = some (r, h')
theorem VarOk.fail (keep : Nat → List Nat) (F : Nat → Tm → Prog (Nat × Tm)) : VarOk keep F fun _ _ => .fail := fun _ _ _ _ _ e => nomatch e
theorem varP_ok {X Y : Type} {base0 : Nat} {keep : Nat → List Nat} {F : Nat → Tm → Prog (Nat × Tm)} {s : StS} {flat : StD s → X} {un : X → StD s} (hss : strictS s = true) (hu : ∀ d, un (flat d) = d)
    {getY : Nat → Tm → Hp → Option Y} {outY : Y → (Nat × Tm) × Hp} (hY : ∀ c T h y, getY c T h = some y → ((c, T), h) = outY y) {step : X → Option (X ⊕ Y)}
    (hs : ∀ x, roundK base0 keep (F base0) (sT s (un x)) (sH s (un x)) (rdO (fun T h => (rdS s T h).map flat) getY) = step x) {L : X → Option Y} (hL : ∀ x y, L x = some y → ∃ n, iterO step n x = some y)
    {alt : Y → Prog (Nat × Tm)} (ha : AltOk alt outY) {next : Nat → Tm → Prog (Nat × Tm)} (hn : VarOk keep F next) : VarOk keep F (varP base0 (fun T h => (rdS s T h).map flat) L alt next) := by
  have hget : ∀ T h x, (rdS s T h).map flat = some x → T = sT s (un x) ∧ h = sH s (un x) := fun T h x e => by
    obtain ⟨d, e1, rfl⟩ := Option.map_eq_some_iff.1 e
    rw [hu]; exact rdS_some hss e1
  intro base T h r h' e
  unfold varP at e
  cases hb : Nat.beq base base0 <;> rw [hb] at e
  · exact hn base T h r h' e
  · obtain rfl := nb_iff.1 hb
    unfold go at e
    simp only [cond_true, run, cond_false, Option.bind_some] at e
    cases hg : (rdS s T h).map flat with
    | none => rw [hg] at e; exact hn base T h r h' e
    | some x =>
      rw [hg] at e
      simp only [run] at e
      obtain ⟨y, e1, e2⟩ := Option.bind_eq_some_iff.1 e
      obtain ⟨rfl, rfl⟩ := hget T h x hg
      obtain ⟨n, e3⟩ := hL x y e1
      refine ⟨n, ?_⟩
      rw [iterO_go hget hY hs n x y e3]
      congr 1
      exact (ha y _ _ e2).symm
end
end Go.Proofs.YtmjbedjnojcmfaaGreatDoor.Ex

namespace Go.Proofs.YtmjbedjnojcmfaaGreatDoor.Ex
set_option linter.unusedSectionVars false
set_option linter.unusedVariables false
section
variable [RT]

theorem capL_bind {α β : Type} : ∀ (vs : List AV) (k : List AV → Prog α) (f : α → Prog β), (capL vs k).bind f = capL vs fun r => (k r).bind f
  | [], _, _ => rfl
  | v :: r, k, f => by
    cases v with
    | ptr id off =>
      simp only [capL, Prog.bind]
      congr 1
      funext b
      cases b with
      | box cs =>
        simp only
        cases dataL cs
        · exact capL_bind r _ f
        · simp only [cond_true, Prog.bind]; congr 1; exact capL_bind r _ f
      | row e l => rfl
    | _ => simp only [capL]; exact capL_bind r _ f
theorem lookL_bind {α β : Type} : ∀ (vs : List AV) (k : List AV → Prog α) (f : α → Prog β), (lookL vs k).bind f = lookL vs fun r => (k r).bind f
  | [], _, _ => rfl
  | v :: r, k, f => by
    cases v with
    | row id =>
      simp only [lookL, Prog.bind]
      congr 1
      funext b
      cases b with
      | box cs => rfl
      | row e l => exact lookL_bind r _ f
    | _ => simp only [lookL]; exact lookL_bind r _ f
theorem rowsL_bind {α β : Type} : ∀ (vs : List AV) (k : List AV → Prog α) (f : α → Prog β), (rowsL vs k).bind f = rowsL vs fun r => (k r).bind f
  | [], _, _ => rfl
  | v :: r, k, f => by
    cases v with
    | row id =>
      simp only [rowsL, Prog.bind]
      congr 1
      funext b
      cases b with
      | box cs => rfl
      | row e l => simp only [Prog.bind]; congr 1; exact rowsL_bind r _ f
    | _ => simp only [rowsL]; exact rowsL_bind r _ f
mutual
theorem frz_bind {α β : Type} (dl : Bool) : ∀ (v : AV) (k : AV → Prog α) (f : α → Prog β), (frz dl v k).bind f = frz dl v fun r => (k r).bind f
  | .row id, k, f => by
    simp only [frz, Prog.bind]
    congr 1
    funext b
    cases b with
    | box cs => rfl
    | row e l => cases dl <;> simp only [cond_true, cond_false, Prog.bind]
  | .agg cs, k, f => by simp only [frz]; exact frzL_bind dl cs _ f
  | .tup cs, k, f => by simp only [frz]; exact frzL_bind dl cs _ f
  | .clo g a b, k, f => by
    simp only [frz]
    cases dl
    · simp only [cond_false]; exact frzL_bind false b _ f
    · simp only [cond_true]; exact capL_bind b _ f
  | .undef, k, f => rfl
  | .int _ _, k, f => rfl
  | .bool _, k, f => rfl
  | .str _, k, f => rfl
  | .nil, k, f => rfl
  | .sl _ _, k, f => rfl
  | .ptr id off, k, f => by
    simp only [frz]
    cases dl
    · simp only [cond_false, Prog.bind]
      congr 1
      funext b
      cases b with
      | box cs =>
        simp only
        rw [lookL_bind]
        congr 1
        funext c
        cases dataL c <;> rfl
      | row e l => rfl
    · rfl
  | .eptr _ _ _ _, k, f => rfl
  | .sub id sz lo hi, k, f => by
    simp only [frz, Prog.bind]
    congr 1
    funext b
    cases b with
    | box cs => rfl
    | row e l =>
      dsimp only
      generalize Nat.beq sz (eTy e).size = q
      cases q <;> cases dl <;> simp only [cond_true, cond_false, Prog.bind]
  | .vsl e id sz n, k, f => by
    cases dl
    · rfl
    simp only [frz, Prog.bind, cond_true]
    congr 1
    funext b
    cases b with
    | box cs =>
      dsimp only
      generalize Nat.beq sz (eTy e).size = q
      cases q
      · rfl
      · simp only [cond_true, Prog.bind]
        congr 1
        rw [rowsL_bind]
        rfl
    | row e l => rfl
  | .view _ _, k, f => rfl
theorem frzL_bind {α β : Type} (dl : Bool) : ∀ (vs : List AV) (k : List AV → Prog α) (f : α → Prog β), (frzL dl vs k).bind f = frzL dl vs fun r => (k r).bind f
  | [], _, _ => rfl
  | v :: r, k, f => by
    simp only [frzL]
    rw [frz_bind dl v]
    congr 1
    funext x
    exact frzL_bind dl r _ f
end

theorem capL_free {α : Type} : ∀ (vs : List AV) (k : List AV → Prog α), AV.idsL vs = [] → capL vs k = k vs
  | [], _, _ => rfl
  | v :: r, k, h => by
    simp only [AV.idsL, List.append_eq_nil_iff] at h
    cases v with
    | ptr id off => simp [AV.ids] at h
    | _ => simp only [capL]; exact capL_free r _ h.2
mutual
theorem frz_free {α : Type} (dl : Bool) : ∀ (v : AV) (k : AV → Prog α), v.ids = [] → frz dl v k = k v
  | .row id, k, h => by simp [AV.ids] at h
  | .agg cs, k, h => by simp only [frz]; exact frzL_free dl cs _ (by simpa [AV.ids] using h)
  | .tup cs, k, h => by simp only [frz]; exact frzL_free dl cs _ (by simpa [AV.ids] using h)
  | .clo g a b, k, h => by
    simp only [AV.ids, List.append_eq_nil_iff] at h
    simp only [frz]
    cases dl
    · simp only [cond_false]; exact frzL_free false b _ h.2
    · simp only [cond_true]; exact capL_free b _ h.2
  | .undef, k, _ => rfl
  | .int _ _, k, _ => rfl
  | .bool _, k, _ => rfl
  | .str _, k, _ => rfl
  | .nil, k, _ => rfl
  | .sl _ _, k, _ => rfl
  | .ptr _ _, k, h => by simp [AV.ids] at h
  | .eptr _ _ _ _, k, _ => rfl
  | .sub _ _ _ _, k, h => by simp [AV.ids] at h
  | .vsl _ _ _ _, k, h => by simp [AV.ids] at h
  | .view _ _, k, _ => rfl
theorem frzL_free {α : Type} (dl : Bool) : ∀ (vs : List AV) (k : List AV → Prog α), AV.idsL vs = [] → frzL dl vs k = k vs
  | [], _, _ => rfl
  | v :: r, k, h => by
    simp only [AV.idsL, List.append_eq_nil_iff] at h
    simp only [frzL]
    rw [frz_free dl v _ h.1, frzL_free dl r _ h.2]
end
mutual
theorem ren_free (ρ : Nat → Option Nat) : ∀ v : AV, v.ids = [] → v.ren ρ = v
  | .ptr id off, h => by simp [AV.ids] at h
  | .row id, h => by simp [AV.ids] at h
  | .eptr _ _ _ _, h => by simp [AV.ids] at h
  | .sub _ _ _ _, h => by simp [AV.ids] at h
  | .vsl _ _ _ _, h => by simp [AV.ids] at h
  | .view cs off, h => by simp only [AV.ren]; rw [renL_free ρ cs (by simpa [AV.ids] using h)]
  | .clo f a b, h => by
    simp only [AV.ids, List.append_eq_nil_iff] at h
    simp only [AV.ren]; rw [renL_free ρ a h.1, renL_free ρ b h.2]
  | .agg cs, h => by simp only [AV.ren]; rw [renL_free ρ cs (by simpa [AV.ids] using h)]
  | .tup cs, h => by simp only [AV.ren]; rw [renL_free ρ cs (by simpa [AV.ids] using h)]
  | .undef, _ => rfl
  | .int _ _, _ => rfl
  | .bool _, _ => rfl
  | .str _, _ => rfl
  | .nil, _ => rfl
  | .sl _ _, _ => rfl
theorem renL_free (ρ : Nat → Option Nat) : ∀ vs : List AV, AV.idsL vs = [] → AV.renL ρ vs = vs
  | [], _ => rfl
  | v :: r, h => by
    simp only [AV.idsL, List.append_eq_nil_iff] at h
    simp only [AV.renL]; rw [ren_free ρ v h.1, renL_free ρ r h.2]
end

theorem ext0_ids : ∀ bs : List (Nat × Blk), extIds 0 bs = []
  | [] => rfl
  | (k, b) :: r => by simp only [extIds]; rw [show leB 0 k = true from leB_iff.2 (Nat.zero_le _), cond_true]; exact ext0_ids r
theorem ext0_blks (ρ : Nat → Option Nat) : ∀ bs : List (Nat × Blk), extB 0 ρ bs = []
  | [] => rfl
  | (k, b) :: r => by simp only [extB]; rw [show leB 0 k = true from leB_iff.2 (Nat.zero_le _), cond_true]; exact ext0_blks ρ r

theorem norm_none {α R : Type} (T : Tm) (keep : List Nat) (hT : idsT T keep = []) (k : Tm → Prog α) (h : Hp) (f : Foot) (K : α → Hp → Foot → Option R) :
    run (.norm 0 keep T k) false h f K = run (k (keepT (renOf 0 []) T keep)) false ⟨[], 0⟩ f K := by
  simp only [run, cond_false]
  have e : normOrder 0 keep T h.blks = [] := by
    unfold normOrder
    rw [hT, ext0_ids]
    rfl
  rw [e, show leB 0 h.c = true from leB_iff.2 (Nat.zero_le _)]
  simp only [nodupN, Bool.and_self, cond_true, ext0_blks]
  rfl

theorem finP_free {R : Type} (v : AV) (hv : v.ids = []) (h : Hp) (f : Foot) (K : AV → Hp → Foot → Option R) : run (finP true v) false h f K = K v ⟨[], 0⟩ f := by
  unfold finP
  rw [cond_true, frz_free true v _ hv, norm_none _ _ (by simp [idsT, getT, hv])]
  have : getT (keepT (renOf 0 []) [(0, v)] [0]) 0 = v := by
    show AV.ren _ v = v
    exact ren_free _ v hv
  rw [this]; rfl

def outP (rs : Sh) (v : AV) : Prog (ShD rs) := frz true v fun v' => .opt (rd rs v') fun d => .norm 0 [] [] fun _ => .ret d

def evG (q : List AV → Prog AV) (sh : List Sh) (rs : Sh) (x : ShDs sh) : Option (ShD rs) := run ((q (mks sh x)).bind (outP rs)) false ⟨[], 0⟩ ⟨[], []⟩ fun d _ _ => some d

def qIn (sh : List Sh) (q : List AV → Prog AV) (args : List AV) : Prog AV := .opt (rds sh args) fun x => q (mks sh x)
def qOut (rs : Sh) (q : List AV → Prog AV) (args : List AV) : Prog AV := (q args).bind fun v => frz true v fun v' => .opt (rd rs v') fun d => .ret (mk rs d)
def conN (sh : List Sh) (rs : Sh) (G : ShDs sh → Option (ShD rs)) (args : List AV) : Option (Bool × AV × List Blk) := (rds sh args).bind fun x => (G x).map fun r => (true, mk rs r, [])

def conP (dl : Bool) (sh : List Sh) (rs : Sh) (G : ShDs sh → Option (ShD rs)) (args : List AV) : Prog AV :=
  frzL dl args fun args' => .opt (rds sh args') fun x => .opt (G x) fun r => .ret (mk rs r)
section
variable {P : Program}
theorem SoundA.qIn {g : FuncId} {q : List AV → Prog AV} (hq : SoundA P g q) {sh : List Sh} (hf : frees sh = true) : SoundA P g (Go.Proofs.YtmjbedjnojcmfaaGreatDoor.Ex.qIn sh q) := by
  intro tr args h ft v h' ft' vals hdr S w ok e hr hm hv hi hO
  obtain ⟨x, e1, e2⟩ := ex_opt e
  exact hq tr _ h ft v h' ft' vals hdr S w ok e2 hr hm (rds_rep sh args x vals e1 hv) (fun n hn => by rw [mks_ids sh x hf] at hn; cases hn) hO

theorem SoundA.qOut {g : FuncId} {q : List AV → Prog AV} (hq : SoundA P g q) {rs : Sh} (hf : free rs = true) : SoundA P g (Go.Proofs.YtmjbedjnojcmfaaGreatDoor.Ex.qOut rs q) := by
  intro tr args h ft v h' ft' vals hdr S w ok e hr hm hv hi hO
  obtain ⟨v0, h1, f1, e1, e2⟩ := ex_bind_some e
  have hO1 : ∀ id, ok id → Out tr h.c h1.c id := fun id k => (hO id k).less fun ht => by subst ht; exact ex_mono _ _ _ _ e2
  obtain ⟨c1, c2⟩ := hq tr args h ft v0 _ _ vals hdr S w ok e1 hr hm hv hi hO1
  refine ⟨c1, c2.mono ?_⟩
  rintro en w' ⟨u, hdr', S', rfl, p1, k3, k4⟩
  obtain ⟨v', h2, f2, S2, e3, p2, q2, i2, cc⟩ := frz_del v0 _ h1 f1 S' u (okn ok h.c h1.c) p1.real p1.ment k3 _ e2
  obtain ⟨d, e4, e5⟩ := ex_opt e3
  cases ex_ret e5
  exact ⟨u, hdr', S2, rfl, p1.trans p2, rd_rep rs v' d u e4 q2, fun n hn => by rw [mk_ids rs d hf] at hn; cases hn⟩

theorem conA {g : FuncId} {q : List AV → Prog AV} (hq : SoundA P g q) (dl : Bool) {sh : List Sh} {rs : Sh} (hsh : frees sh = true) (hrs : free rs = true) {G : ShDs sh → Option (ShD rs)} (hG : ∀ x r, G x = some r → evG q sh rs x = some r)
    (hpl : dl = true ∨ ∀ r, plainV (mk rs r) = true) : SoundA P g (specP dl (conN sh rs G)) := by
  refine soundA_spec (fz := true) ((hq.qIn hsh).qOut hrs) fun args v bs h => ?_
  obtain ⟨x, e1, e2⟩ := Option.bind_eq_some_iff.1 h
  obtain ⟨r, e3, e4⟩ := Option.map_eq_some_iff.1 e2
  cases e4
  refine ⟨rds_ids sh args x hsh e1, hpl.imp id fun k => ⟨k r, rfl⟩, ?_⟩
  have hx := hG x r e3
  unfold evG at hx
  rw [run_bind, run_ex] at hx
  obtain ⟨⟨v1, h1, f1⟩, e5, e6⟩ := Option.bind_eq_some_iff.1 hx
  have hb : outP rs v1 = (frz true v1 .ret).bind fun v' => .opt (rd rs v') fun d => .norm 0 [] [] fun _ => .ret d := by
    rw [frz_bind]; rfl
  simp only at e6
  rw [hb, run_bind, run_ex] at e6
  obtain ⟨⟨v2, h2, f2⟩, e7, e8⟩ := Option.bind_eq_some_iff.1 e6
  simp only [run] at e8
  obtain ⟨d, e9, e10⟩ := Option.bind_eq_some_iff.1 e8
  have e11 : run (.norm 0 [] [] fun _ => .ret d) false h2 f2 (fun d _ _ => some d) = some r := e10
  rw [norm_none _ _ rfl] at e11
  obtain rfl : d = r := Option.some.inj e11
  refine ⟨f2, ?_⟩
  unfold ex Go.Proofs.YtmjbedjnojcmfaaGreatDoor.Ex.qOut Go.Proofs.YtmjbedjnojcmfaaGreatDoor.Ex.qIn
  rw [e1]
  simp only [Prog.bind, run, Option.bind_some]
  rw [run_bind, run_bind, run_ex, e5]
  simp only [Option.bind_some]
  have hb2 : (frz true v1 fun v' => Prog.opt (rd rs v') fun d => .ret (mk rs d)) = (frz true v1 .ret).bind fun v' => .opt (rd rs v') fun d => .ret (mk rs d) := by
    rw [frz_bind]; rfl
  rw [hb2, run_bind, run_ex, e7]
  simp only [Option.bind_some, run, e9]
  exact finP_free _ (mk_ids rs d hrs) h2 f2 _

theorem conP_sound {g : FuncId} {q : List AV → Prog AV} (hq : SoundA P g q) (dl : Bool) {sh : List Sh} {rs : Sh} (hsh : frees sh = true) (hrs : free rs = true) {G : ShDs sh → Option (ShD rs)} (hG : ∀ x r, G x = some r → evG q sh rs x = some r)
    (hpl : dl = true ∨ ∀ r, plainV (mk rs r) = true) : SoundA P g (conP dl sh rs G) := by
  refine SoundA.weaken fun args tr h f r h' f' e => ⟨specP dl (conN sh rs G), f', conA hq dl hsh hrs hG hpl, ?_⟩
  have e1 : conP dl sh rs G args = (frzL dl args .ret).bind fun args' => .opt (rds sh args') fun x => .opt (G x) fun r => .ret (mk rs r) := by
    rw [frzL_bind]; rfl
  have e2 : specP dl (conN sh rs G) args = (frzL dl args .ret).bind fun args' => .opt (conN sh rs G args') fun r => .ite r.1 (.ctr fun base => newsP (shiftB base r.2.2.length) r.2.2 (.ret (r.2.1.ren (shiftB base r.2.2.length)))) .fail := by
    rw [frzL_bind]; rfl
  unfold ex at e ⊢
  rw [e1, run_bind, run_ex] at e
  rw [e2, run_bind, run_ex]
  obtain ⟨⟨a1, h1, f1⟩, e3, e4⟩ := Option.bind_eq_some_iff.1 e
  rw [e3]
  simp only [Option.bind_some, run] at e4 ⊢
  obtain ⟨x, e5, e6⟩ := Option.bind_eq_some_iff.1 e4
  obtain ⟨y, e7, e8⟩ := Option.bind_eq_some_iff.1 e6
  cases e8
  unfold conN
  rw [e5]
  simp only [Option.bind_some, e7, Option.map_some, cond_true, newsP, run]
  rw [ren_free _ _ (mk_ids rs y hrs)]

end
end
end Go.Proofs.YtmjbedjnojcmfaaGreatDoor.Ex

namespace Go.Proofs.YtmjbedjnojcmfaaGreatDoor.Ex
set_option linter.unusedSectionVars false
set_option linter.unusedVariables false
set_option linter.unusedSimpArgs false
section
variable [RT]
def frcV {β : Type} (v : AV) (k : AV → β) : β := match v with
  | .undef => k .undef
  | .int c n => k (.int c n)
  | .bool b => k (.bool b)
  | .str s => k (.str s)
  | .nil => k .nil
  | .sl e l => k (.sl e l)
  | .ptr id off => k (.ptr id off)
  | .row id => k (.row id)
  | .eptr id sz i off => k (.eptr id sz i off)
  | .sub id sz lo hi => k (.sub id sz lo hi)
  | .vsl e id sz n => k (.vsl e id sz n)
  | .view cs off => k (.view cs off)
  | .clo f a b => k (.clo f a b)
  | .agg cs => k (.agg cs)
  | .tup vs => k (.tup vs)
theorem frcV_eq {β : Type} (v : AV) (k : AV → β) : frcV v k = k v := by cases v <;> rfl
noncomputable def lookX {β : Type} (T : Tm) (l : List Nat) : (Tm → β) → β := @List.rec Nat (fun _ => (Tm → β) → β) (fun k => k []) (fun t _ ih k => frcV (getR T t) fun v => ih fun R => k ((t, v) :: R)) l
theorem lookX_eq {β : Type} (T : Tm) (l : List Nat) (k : Tm → β) : lookX T l k = k (lookT T l) := by
  induction l generalizing k with
  | nil => rfl
  | cons t l ih =>
    show frcV (getR T t) (fun v => lookX T l fun R => k ((t, v) :: R)) = _
    rw [frcV_eq, ih, getR_eq]; rfl
noncomputable def qIndex (ti : TypeId → Option TInfo) (T : Tm) (t : TypeId) (x ix : Operand) : Prog AV := .opt (ti t) fun i => bif isStr i.ty then
    match evOR T x, evOR T ix with
    | .str s, .int _ n => .ite (decide (0 ≤ n)) (.opt s[n.toNat]? fun b => .ret (.int .u8 (b.toNat : Nat))) .fail
    | _, _ => .fail
    else .fail

noncomputable def qLoad2 (ti : TypeId → Option TInfo) (T : Tm) (t : TypeId) (p : Operand) : Prog AV := .opt (ti t) fun i => match evOR T p with
    | .ptr id off => .get id fun
      | .box cs => .opt (subR cs off i.ty.size) fun ds => .ret (pack i.ty ds)
      | .row _ _ => .fail
    | .view cs off => .opt (subR cs off i.ty.size) fun ds => .ret (pack i.ty ds)
    | .eptr id sz j off => .get id fun
      | .row e l => bif Nat.beq sz (eTy e).size then .opt l[j]? fun d => .opt (subL (expand (eTy e) (eVal e d)) off i.ty.size) fun ds => .ret (pack i.ty ds) else .fail
      | .box _ => .fail
    | _ => .fail
noncomputable def qStore2 (ti : TypeId → Option TInfo) (T : Tm) (t : TypeId) (p x : Operand) : Prog AV := .opt (ti t) fun i => .opt (cellsOf (evOR T x)) fun vs => bif Nat.beq (lenR vs) i.ty.size && flatR vs then
      match evOR T p with
      | .ptr id off => .get id fun
        | .box cs => bif leB (off + lenR vs) (lenR cs) then .put id (.box (splR cs off vs)) (.ret .undef) else .fail
        | .row _ _ => .fail
      | .eptr id sz j off => freeze vs fun vs' => .get id fun
        | .row e l => bif Nat.beq sz (eTy e).size then .opt l[j]? fun d =>
          bif leB (off + vs'.length) (eTy e).size then .opt (collapse (eTy e) (splice (expand (eTy e) (eVal e d)) off vs')) fun d' => .put id (.row e (l.set j (eMk e d'))) (.ret .undef) else .fail
          else .fail
        | .box _ => .fail
      | _ => .fail
    else .fail
noncomputable def qIndexAddr2 (ti : TypeId → Option TInfo) (T : Tm) (t : TypeId) (x ix : Operand) : Prog AV := .opt (ti t) fun i => .opt (ti i.elem) fun ie => bif isSl i.ty then
    match evOR T x, evOR T ix with
    | .sl e l, .int _ n => bif Nat.beq ie.ty.size (eTy e).size then .ite (decide (0 ≤ n)) (.opt l[n.toNat]? fun d => .ret (.view (expand (eTy e) (eVal e d)) 0)) .fail else .fail
    | .row id, .int _ n => .get id fun
      | .row e l => bif Nat.beq ie.ty.size (eTy e).size then .ite (decide (0 ≤ n)) (.opt l[n.toNat]? fun _ => .ret (.eptr id (eTy e).size n.toNat 0)) .fail else .fail
      | .box _ => .fail
    | .vsl _ id sz m, .int _ n => bif Nat.beq ie.ty.size sz then .ite (decide (0 ≤ n ∧ n.toNat < m)) (.ret (.ptr id (n.toNat * sz))) .fail else .fail
    | _, _ => .fail
    else .fail

abbrev KX (R α : Type) := α → Hp → Foot → Option R
abbrev RunX (R α : Type) := Bool → Hp → Foot → KX R α → Option R
section
variable {R : Type}
noncomputable def yIte (b : Bool) (p q : Option R) : Option R := @Bool.rec (fun _ => Option R) q p b
noncomputable def xOpt {α β : Type} (x : Option β) (k : β → RunX R α) : RunX R α := fun tr h f K => @Option.rec β (fun _ => Option R) none (fun b => k b tr h f K) x
noncomputable def xAlt {α β γ : Type} (x : β ⊕ γ) (k : β → RunX R α) (l : γ → RunX R α) : RunX R α := fun tr h f K => @Sum.rec β γ (fun _ => Option R) (fun b => k b tr h f K) (fun c => l c tr h f K) x
noncomputable def xGet {α : Type} (id : Nat) (k : Blk → RunX R α) : RunX R α := fun tr h f K => @Option.rec Blk (fun _ => Option R) none (fun b => k b tr h (addR tr f id) K) (findR h.blks id)
noncomputable def xPut {α : Type} (id : Nat) (b : Blk) (k : RunX R α) : RunX R α := fun tr h f K => @Option.rec Blk (fun _ => Option R) none (fun _ => k tr { h with blks := setR h.blks id b } (addW tr f id) K) (findR h.blks id)
noncomputable def xNew {α : Type} (b : Blk) (k : Nat → RunX R α) : RunX R α := fun tr h f K => k h.c tr { blks := (h.c, b) :: h.blks, c := h.c + 1 } (addW tr f h.c) K
noncomputable def xDel {α : Type} (id : Nat) (k : RunX R α) : RunX R α := fun tr h f K => @Option.rec Blk (fun _ => Option R) none (fun _ => k tr { h with blks := delR h.blks id } (addW tr f id) K) (findR h.blks id)
noncomputable def xSeek {α : Type} (n : Nat) (k : RunX R α) : RunX R α := fun tr h f K => @Bool.rec (fun _ => Option R) none (k tr { h with c := n } f K) (leB h.c n)
noncomputable def xTrace {α β : Type} (p : RunX R β) (k : β → Foot → RunX R α) : RunX R α := fun tr h f K => p true h { rd := [], wr := [] } fun b h' f' => k b f' tr h' { rd := f'.rd ++ f.rd, wr := f'.wr ++ f.wr } K
noncomputable def xNorm {α : Type} (base : Nat) (keep : List Nat) (T : Tm) (k : Tm → RunX R α) : RunX R α := fun tr h f K =>
    bif tr then none else
    let order := normOrder base keep T h.blks
    bif nodupN order && leB base h.c then k (keepT (renOf base order) T keep) tr { blks := extB base (renOf base order) h.blks ++ newB (renOf base order) h.blks base order, c := base + order.length } f K
    else none
noncomputable def xGlob {α β : Type} (g : Hp → Option (β × Hp)) (k : β → RunX R α) : RunX R α := fun tr h f K => bif tr then none else @Option.rec (β × Hp) (fun _ => Option R) none (fun r => k r.1 tr r.2 f K) (g h)
noncomputable def runX {α : Type} (p : Prog α) : RunX R α :=
  @Prog.rec _ (fun {α} _ => RunX R α)
    (fun a _ h f K => K a h f)
    (fun _ _ _ _ => none)
    (fun b _ _ ihp ihq tr h f K => yIte b (ihp tr h f K) (ihq tr h f K))
    (fun x _ ih => xOpt x ih)
    (fun x _ _ ihk ihl => xAlt x ihk ihl)
    (fun id _ ih => xGet id ih)
    (fun id b _ ih => xPut id b ih)
    (fun b _ ih => xNew b ih)
    (fun id _ ih => xDel id ih)
    (fun _ ih tr h f K => ih h.c tr h f K)
    (fun n _ ih => xSeek n ih)
    (fun _ _ ihp ihk => xTrace ihp ihk)
    (fun base keep T _ ih => xNorm base keep T ih)
    (fun g _ ih => xGlob g ih) _ p
end
theorem runX_eq {α : Type} (p : Prog α) : ∀ {R : Type} (tr : Bool) (h : Hp) (f : Foot) (K : KX R α), runX p tr h f K = run p tr h f K := by
  induction p with
  | ret a => intros; rfl
  | fail => intros; rfl
  | ite b p q ihp ihq => intro R tr h f K; cases b <;> first | exact ihp .. | exact ihq ..
  | opt x k ih => intro R tr h f K; cases x <;> first | rfl | exact ih ..
  | alt x k l ihk ihl => intro R tr h f K; cases x <;> first | exact ihk .. | exact ihl ..
  | get id k ih =>
    intro R tr h f K
    change @Option.rec Blk (fun _ => Option R) none (fun b => runX (k b) tr h (addR tr f id) K) (findR h.blks id) = _
    rw [findR_eq]
    simp only [run]
    cases findB h.blks id <;> first | rfl | exact ih ..
  | put id b k ih =>
    intro R tr h f K
    change @Option.rec Blk (fun _ => Option R) none (fun _ => runX k tr { h with blks := setR h.blks id b } (addW tr f id) K) (findR h.blks id) = _
    rw [findR_eq, setR_eq]
    simp only [run]
    cases findB h.blks id <;> first | rfl | exact ih ..
  | new b k ih => intro R tr h f K; exact ih ..
  | del id k ih =>
    intro R tr h f K
    change @Option.rec Blk (fun _ => Option R) none (fun _ => runX k tr { h with blks := delR h.blks id } (addW tr f id) K) (findR h.blks id) = _
    rw [findR_eq, delR_eq]
    simp only [run]
    cases findB h.blks id <;> first | rfl | exact ih ..
  | ctr k ih => intro R tr h f K; exact ih ..
  | seek n k ih =>
    intro R tr h f K
    change @Bool.rec (fun _ => Option R) none (runX k tr { h with c := n } f K) (leB h.c n) = _
    simp only [run]
    cases leB h.c n <;> first | rfl | exact ih ..
  | trace p k ihp ihk =>
    intro R tr h f K
    change runX p true h { rd := [], wr := [] } (fun b h' f' => runX (k b f') tr h' { rd := f'.rd ++ f.rd, wr := f'.wr ++ f.wr } K) = _
    rw [ihp]
    simp only [run, ihk]
  | norm base keep T k ih =>
    intro R tr h f K
    simp only [run]
    cases tr
    · change (bif nodupN (normOrder base keep T h.blks) && leB base h.c then runX (k (keepT (renOf base (normOrder base keep T h.blks)) T keep)) false _ f K else none) = _
      simp only [cond_false]
      cases (nodupN (normOrder base keep T h.blks) && leB base h.c) <;> first | rfl | exact ih ..
    · rfl
  | glob g k ih =>
    intro R tr h f K
    simp only [run]
    cases tr
    · change @Option.rec _ (fun _ => Option R) none (fun r => runX (k r.1) false r.2 f K) (g h) = _
      simp only [cond_false]
      cases g h <;> first | rfl | exact ih ..
    · rfl

abbrev CalX (R : Type) := FuncId → List AV → RunX R AV
def Same {R α : Type} (t : RunX R α) (p : Prog α) : Prop := ∀ (tr : Bool) (h : Hp) (f : Foot) (K : KX R α), t tr h f K = run p tr h f K
theorem Same.run {R α : Type} (p : Prog α) : Same (R := R) (runX p) p := fun tr h f K => runX_eq p tr h f K
theorem Same.no {R α : Type} : Same (R := R) (fun _ _ _ _ => none) (.fail : Prog α) := fun _ _ _ _ => rfl
theorem Same.bind {R α β : Type} {t : RunX R α} {p : Prog α} {u : α → RunX R β} {q : α → Prog β} (hp : Same t p) (hq : ∀ a, Same (u a) (q a)) : Same (fun tr h f K => t tr h f fun a h f => u a tr h f K) (p.bind q) := by
  intro tr h f K
  rw [run_bind, ← hp]
  show t tr h f (fun a h f => u a tr h f K) = _
  congr 1
  funext a h f
  exact hq a tr h f K

section
variable {R : Type}
noncomputable def xCall (ti : TypeId → Option TInfo) (cal : CalX R) (T : Tm) (c : Call) : RunX R AV := match c.callee with
    | .builtin b => runX (builtinP ti b c.argTypes.toList (evLR T c.args.toList))
    | .value x => match evOR T x with
      | .clo g first caps => cal g (appR first (appR (evLR T c.args.toList) caps))
      | _ => fun _ _ _ _ => none
    | .invoke _ _ => fun _ _ _ _ => none
noncomputable def opX (cx : Ctx) (cal : CalX R) (T : Tm) (o : Oper) : RunX R AV :=
  match o.op with
  | .move x => fun _ h f K => K (evOR T x) h f
  | .assign x => fun _ h f K => K (evOR T x) h f
  | .call c => xCall (tiL cx.tab) cal T c
  | .pick c a b => runX (qPick T c a b)
  | .alloc t => runX (qAlloc (tiL cx.tab) t)
  | .box _ x => runX (qBox T x)
  | .load t p => runX (qLoad2 (tiL cx.tab) T t p)
  | .store t p x => runX (qStore2 (tiL cx.tab) T t p x)
  | .fieldAddr s x g => runX (qFieldAddr (tiL cx.tab) T s x g)
  | .field t x g => runX (qField (tiL cx.tab) T t x g)
  | .indexAddr t x ix => runX (qIndexAddr2 (tiL cx.tab) T t x ix)
  | .binOp op xT x y _ => runX (binP (tiL cx.tab) op xT (evOR T x) (evOR T y))
  | .unOp op _ x => runX (qUn T op x)
  | .convert src dst x => runX (qConvert (tiL cx.tab) T src dst x)
  | .build t ps => runX (qBuild (tiL cx.tab) T t ps)
  | .buildSlice t n ps => runX (qBuildSlice cx.vr (tiL cx.tab) T t n ps)
  | .makeSlice t n c => runX (qMakeSlice (tiL cx.tab) T t n c)
  | .slice t x lo hi mx => runX (qSlice (tiL cx.tab) T t x lo hi mx)
  | .extract t i => runX (qExtract T t i)
  | .makeFunc fn first caps => runX (qMakeFunc T fn first caps)
  | .nilCheck x => runX (qNilCheck T x)
  | .index t x ix => runX (qIndex (tiL cx.tab) T t x ix)
  | _ => fun _ _ _ _ => none

theorem opX_same (cx : Ctx) {cal : CalX R} {calP : FuncId → List AV → Prog AV} (hc : ∀ g a, Same (cal g a) (calP g a)) (T : Tm) (o : Oper) : Same (opX cx cal T o) (opP cx calP T o) := by
  unfold opX opP xCall qPick qBox qLoad2 qStore2 qFieldAddr qField qIndexAddr2 qUn qConvert qBuild qBuildSlice qMakeSlice qSlice qExtract qMakeFunc qNilCheck qAlloc qIndex
  simp only [evOR_eq, evLR_eq, subR_eq, fillR_eq, lenR_eq, flatR_eq, splR_eq, nthR_eq, qBuiltin_eq, appR_eq]
  cases o.op with
  | call c =>
    simp only
    cases c.callee with
    | value x =>
      simp only
      cases evO T x with
      | clo g first caps => simp only; rw [← List.append_assoc]; exact hc _ _
      | _ => exact Same.no
    | builtin b => exact Same.run _
    | invoke x m => exact Same.no
  | move x => exact fun tr h f K => rfl
  | assign x => exact fun tr h f K => rfl
  | _ => first | exact Same.run _ | exact Same.no

noncomputable def stepX (cx : Ctx) (cal : CalX R) (n : Nat) (ops : List Oper) (T : Tm) (o : Oper) : RunX R Tm := fun tr h f K =>
  bif inN n o.dst then match o.guard with
  | none => opX cx cal T o tr h f fun v h f => K (putT T o.dst v) h f
  | some (j, want) => match dstOf ops j with
    | none => none
    | some g => match getR T g with
      | .bool b => yIte b
        (bif want then opX cx cal ((g, .bool true) :: T) o tr h f (fun v h f => K (putT ((g, .bool true) :: T) o.dst v) h f) else K (putT ((g, .bool true) :: T) o.dst (.tup [])) h f)
        (bif want then K (putT ((g, .bool false) :: T) o.dst (.tup [])) h f else opX cx cal ((g, .bool false) :: T) o tr h f (fun v h f => K (putT ((g, .bool false) :: T) o.dst v) h f))
      | .tup [] => K (putT T o.dst (.tup [])) h f
      | _ => none
  else none

theorem stepX_same (cx : Ctx) {cal : CalX R} {calP : FuncId → List AV → Prog AV} (hc : ∀ g a, Same (cal g a) (calP g a)) (n : Nat) (ops : List Oper) (T : Tm) (o : Oper) : Same (stepX cx cal n ops T o) (stepP cx calP n ops T o) := by
  intro tr h f K
  have one : ∀ (T : Tm) (g : AV → Tm), (opX cx cal T o tr h f fun v h f => K (g v) h f) = run ((opP cx calP T o).bind fun v => .ret (g v)) tr h f K := fun T g => by
    rw [run_bind, opX_same cx hc]; rfl
  unfold stepX stepP
  simp only [getR_eq]
  cases hin : inN n o.dst
  · rfl
  simp only [cond_true]
  cases hg : o.guard with
  | none => exact one T _
  | some g =>
    obtain ⟨j, want⟩ := g
    simp only
    cases hd : dstOf ops j with
    | none => rfl
    | some g =>
      simp only
      generalize getT T g = v
      cases v with
      | bool b =>
        simp only [Go.Proofs.YtmjbedjnojcmfaaGreatDoor.Ex.run]
        cases b <;> cases want <;> first | rfl | exact one _ _
      | tup vs => cases vs <;> rfl
      | _ => rfl

noncomputable def seqX (cx : Ctx) (cal : CalX R) (n : Nat) (ops : List Oper) (tr : Bool) (K : KX R Tm) (l : List Oper) : KX R Tm :=
  @List.rec Oper (fun _ => KX R Tm) K (fun o _ ih T h f => stepX cx cal n ops T o tr h f ih) l
theorem seqX_same (cx : Ctx) {cal : CalX R} {calP : FuncId → List AV → Prog AV} (hc : ∀ g a, Same (cal g a) (calP g a)) (n : Nat) (ops : List Oper) : ∀ (l : List Oper) (T : Tm), Same (fun tr h f K => seqX cx cal n ops tr K l T h f) (seqP cx calP n ops l T)
  | [], T => fun tr h f K => rfl
  | o :: l, T => (stepX_same cx hc n ops T o).bind (u := fun T' tr h f K => seqX cx cal n ops tr K l T' h f) fun T' => seqX_same cx hc n ops l T'

noncomputable def drawX (cx : Ctx) (cal : CalX R) (n : Nat) (ops : List Oper) (c0 : Nat) (tr : Bool) (K : KX R Tm) (l : List Oper) : Nat → List Foot → KX R Tm :=
  @List.rec Oper (fun _ => Nat → List Foot → KX R Tm)
    (fun j _ T h f => @Bool.rec (fun _ => Option R) none (K T ⟨h.blks, c0 + j * cx.spn⟩ f) (leB h.c (c0 + j * cx.spn)))
    (fun o _ ih j fs T h f => @Bool.rec (fun _ => Option R) none
      (stepX cx cal n ops T o true ⟨h.blks, c0 + j * cx.spn⟩ ⟨[], []⟩ fun T' h' f' =>
        @Bool.rec (fun _ => Option R) none (ih (j + 1) (appR fs [f']) T' h' ⟨f'.rd ++ f.rd, f'.wr ++ f.wr⟩) (apartR ops j f' fs 0)) (leB h.c (c0 + j * cx.spn))) l
theorem drawX_same (cx : Ctx) {cal : CalX R} {calP : FuncId → List AV → Prog AV} (hc : ∀ g a, Same (cal g a) (calP g a)) (n : Nat) (ops : List Oper) (c0 : Nat) : ∀ (l : List Oper) (j : Nat) (fs : List Foot) (T : Tm),
    Same (fun tr h f K => drawX cx cal n ops c0 tr K l j fs T h f) (drawP cx calP n ops c0 l j fs T)
  | [], j, fs, T => fun tr h f K => by
    change @Bool.rec (fun _ => Option R) none (K T ⟨h.blks, c0 + j * cx.spn⟩ f) (leB h.c (c0 + j * cx.spn)) = _
    simp only [drawP, Go.Proofs.YtmjbedjnojcmfaaGreatDoor.Ex.run]
    cases leB h.c (c0 + j * cx.spn) <;> rfl
  | o :: l, j, fs, T => fun tr h f K => by
    change @Bool.rec (fun _ => Option R) none (stepX cx cal n ops T o true ⟨h.blks, c0 + j * cx.spn⟩ ⟨[], []⟩ fun T' h' f' =>
        @Bool.rec (fun _ => Option R) none (drawX cx cal n ops c0 tr K l (j + 1) (appR fs [f']) T' h' ⟨f'.rd ++ f.rd, f'.wr ++ f.wr⟩) (apartR ops j f' fs 0)) (leB h.c (c0 + j * cx.spn)) = _
    simp only [drawP, Go.Proofs.YtmjbedjnojcmfaaGreatDoor.Ex.run]
    cases leB h.c (c0 + j * cx.spn)
    · rfl
    simp only [cond_true]
    rw [stepX_same cx hc]
    congr 1
    funext T' h' f'
    rw [apartR_eq, appR_eq]
    cases apartP ops j f' 0 fs
    · rfl
    · exact drawX_same cx hc n ops c0 l (j + 1) (fs ++ [f']) T' tr h' _ K

abbrev EX (R : Type) := Nat → Tm → Hp → Foot → Option R
noncomputable def iterX (F : Tm → Hp → Foot → EX R → Option R) (K : EX R) (n : Nat) : Tm → Hp → Foot → Option R :=
  @Nat.rec (fun _ => Tm → Hp → Foot → Option R) (fun _ _ _ => none) (fun _ ih T h f => F T h f fun e T h f => @Nat.rec (fun _ => Option R) (ih T h f) (fun k _ => K (k + 1) T h f) e) n
noncomputable def xRegion (cx : Ctx) (cal : CalX R) (fx : Fx) (tr : Bool) (ops : List Oper) (d : Bool) (T : Tm) (h : Hp) (f : Foot) (K : EX R) : Option R :=
  bif d then bif tmpsOk ops 0 ops then drawX cx cal fx.n ops h.c tr (fun T' h f => lookX T' fx.keep fun R => K 0 R h f) ops 0 [] T h f else none
    else seqX cx cal fx.n ops tr (fun T' h f => lookX T' fx.keep fun R => K 0 R h f) ops T h f
noncomputable def xCond (c : Operand) (T : Tm) (x y : Tm → Option R) : Option R := match c with
    | .tmp t => match getR T t with
      | .bool v => yIte v (x ((t, .bool true) :: T)) (y ((t, .bool false) :: T))
      | _ => none
    | .const (.bool v) => bif v then x T else y T
    | _ => none
noncomputable def evCX (cx : Ctx) (cal : CalX R) (fx : Fx) (tr : Bool) : Code → Nat → Tm → Hp → Foot → EX R → Option R
  | .skip, _, T, h, f, K => K 0 T h f
  | .region _ ops d, _, T, h, f, K => xRegion cx cal fx tr ops.toList d T h f K
  | .seq x y, b, T, h, f, K => evCX cx cal fx tr x b T h f fun e T h f => @Nat.rec (fun _ => Option R) (evCX cx cal fx tr y b T h f K) (fun k _ => K (k + 1) T h f) e
  | .cond c x y, b, T, h, f, K => xCond c T (fun T => evCX cx cal fx tr x b T h f K) (fun T => evCX cx cal fx tr y b T h f K)
  | .block id x, _, T, h, f, K => evCX cx cal fx tr x id T h f fun e T h f => K (bif Nat.beq e (2 + id) then 0 else e) T h f
  | .loop x, b, T, h, f, K => @Option.rec (Nat → Tm → Prog (Nat × Tm)) (fun _ => Option R) (iterX (fun T h f K => evCX cx cal fx tr x b T h f K) K cx.fuel T h f) (fun p => runX (p fx.base T) tr h f fun e h f => K e.1 e.2 h f) (cx.lps fx.id b)
  | .exit id, _, T, h, f, K => K (2 + id) T h f
  | .ret, _, T, h, f, K => K 1 T h f
  | _, _, _, _, _, _ => none

def SameC (t : Tm → Hp → Foot → EX R → Option R) (tr : Bool) (p : Tm → Prog (Nat × Tm)) : Prop := ∀ (T : Tm) (h : Hp) (f : Foot) (K : EX R), t T h f K = run (p T) tr h f fun e h f => K e.1 e.2 h f

theorem iterX_same {F : Tm → Hp → Foot → EX R → Option R} {tr : Bool} {p : Tm → Prog (Nat × Tm)} (hF : SameC F tr p) : ∀ n, SameC (fun T h f K => iterX F K n T h f) tr (iterP p n)
  | 0 => fun T h f K => rfl
  | n + 1 => fun T h f K => by
    rw [iterP, run_bind]
    change F T h f _ = _
    rw [hF]
    congr 1
    funext e h1 f1
    obtain ⟨e1, T1⟩ := e
    cases e1 with
    | zero => exact iterX_same hF n T1 h1 f1 K
    | succ m => rfl

theorem evCX_same (cx : Ctx) {cal : CalX R} {calP : FuncId → List AV → Prog AV} (hc : ∀ g a, Same (cal g a) (calP g a)) (fx : Fx) (tr : Bool) : ∀ (c : Code) (b : Nat), SameC (evCX cx cal fx tr c b) tr (evC cx calP fx b c) := by
  intro c
  induction c with
  | skip => intro b T h f K; rfl
  | region id ops d =>
    intro b T h f K
    simp only [evCX, xRegion, lookX_eq, evC]
    rw [run_bind]
    cases d
    · simp only [cond_false]
      exact seqX_same cx hc fx.n ops.toList ops.toList T tr h f _
    · simp only [cond_true]
      cases tmpsOk ops.toList 0 ops.toList
      · rfl
      · simp only [cond_true, run]
        exact drawX_same cx hc fx.n ops.toList h.c ops.toList 0 [] T tr h f _
  | seq x y ihx ihy =>
    intro b T h f K
    simp only [evCX, evC]
    rw [run_bind, ihx b]
    congr 1
    funext e h1 f1
    obtain ⟨e1, T1⟩ := e
    cases e1 with
    | zero => exact ihy b T1 h1 f1 K
    | succ m => rfl
  | cond c x y ihx ihy =>
    intro b T h f K
    simp only [evCX, xCond, getR_eq, evC]
    cases c with
    | tmp t =>
      simp only
      generalize getT T t = v
      cases v with
      | bool v =>
        simp only [run]
        cases v
        · exact ihy b _ h f K
        · exact ihx b _ h f K
      | _ => rfl
    | const u =>
      cases u with
      | bool v => cases v with
        | true => exact ihx b T h f K
        | false => exact ihy b T h f K
      | _ => rfl
    | _ => rfl
  | block id x ih =>
    intro b T h f K
    simp only [evCX, evC]
    rw [run_bind, ih id]
    rfl
  | loop x ih =>
    intro b T h f K
    simp only [evCX, evC]
    cases hl : cx.lps fx.id b with
    | some p => exact runX_eq _ _ _ _ _
    | none => exact iterX_same (ih b) cx.fuel T h f K
  | exit id => intro b T h f K; rfl
  | ret => intro b T h f K; rfl
  | _ => intro b T h f K; rfl

noncomputable def evBX (cx : Ctx) (cal : CalX R) (keep : List Nat) (g : FuncId) (fn : Func) (args : List AV) : RunX R AV := fun tr h f K =>
  match fn.body with
  | none => none
  | some c => bif leB (lenR args) fn.ntmps then evCX cx cal ⟨g, fn.ntmps, keep, h.c⟩ tr c 0 (argsT 0 args) h f fun e T h f => match e with
    | 0 | 1 => runX (resP (tiL cx.tab) T fn.results.toList fun
      | [v] => .ret v
      | vs => .ret (.tup vs)) tr h f K
    | _ => none
    else none
theorem evBX_same (cx : Ctx) {cal : CalX R} {calP : FuncId → List AV → Prog AV} (hc : ∀ g a, Same (cal g a) (calP g a)) (keep : List Nat) (g : FuncId) (fn : Func) (args : List AV) : Same (evBX cx cal keep g fn args) (evB cx calP keep g fn args) := by
  intro tr h f K
  unfold evBX evB
  rw [lenR_eq]
  cases fn.body with
  | none => rfl
  | some c =>
    simp only
    cases leB args.length fn.ntmps
    · rfl
    · simp only [cond_true, run]
      rw [run_bind, evCX_same cx hc]
      congr 1
      funext e h1 f1
      obtain ⟨e1, T1⟩ := e
      match e1 with
      | 0 => exact runX_eq _ _ _ _ _
      | 1 => exact runX_eq _ _ _ _ _
      | n + 2 => rfl
noncomputable def evFX (cx : Ctx) (keeps : FuncId → List Nat) : Nat → CalX R
  | 0, g, args => @Option.rec (List AV → Prog AV) (fun _ => RunX R AV) (fun _ _ _ _ => none) (fun p => runX (p args)) (cx.spec g)
  | n + 1, g, args => @Option.rec (List AV → Prog AV) (fun _ => RunX R AV) (@Option.rec Func (fun _ => RunX R AV) (fun _ _ _ _ => none) (fun fn => evBX (cx.at n) (evFX cx keeps n) (keeps g) g fn args) (cx.inl g)) (fun p => runX (p args)) (cx.spec g)
theorem evFX_same (cx : Ctx) (keeps : FuncId → List Nat) : ∀ (n : Nat) (g : FuncId) (a : List AV), Same (R := R) (evFX cx keeps n g a) (evF cx keeps n g a)
  | 0, g, a => by
    simp only [evFX, evF]
    cases cx.spec g with
    | none => exact Same.no
    | some p => exact Same.run _
  | n + 1, g, a => by
    simp only [evFX, evF]
    cases cx.spec g with
    | some p => exact Same.run _
    | none =>
      cases cx.inl g with
      | none => exact Same.no
      | some fn => exact evBX_same (cx.at n) (evFX_same cx keeps n) (keeps g) g fn a
end

noncomputable def evGX (cx : Ctx) (keeps : FuncId → List Nat) (n : Nat) (g : FuncId) (sh : List Sh) (rs : Sh) (x : ShDs sh) : Option (ShD rs) :=
  evFX cx keeps n g (mks sh x) false ⟨[], 0⟩ ⟨[], []⟩ fun v h f => runX (outP rs v) false h f fun d _ _ => some d
theorem evGX_eq (cx : Ctx) (keeps : FuncId → List Nat) (n : Nat) (g : FuncId) (sh : List Sh) (rs : Sh) (x : ShDs sh) : evG (evF cx keeps n g) sh rs x = evGX cx keeps n g sh rs x := by
  unfold evG evGX
  rw [run_bind, evFX_same]
  simp only [runX_eq]
noncomputable def rdX {R : Type} (cx : Ctx) (keeps : FuncId → List Nat) (n : Nat) (fx : Fx) (b : Nat) (x : Code) (base : Nat) (keep : Nat → List Nat) (T : Tm) (h : Hp) (K : Nat → Tm → Hp → Option R) : Option R :=
  evCX cx (evFX cx keeps n) fx false x b T h ⟨[], []⟩ fun e T h f => runX (.norm base (keep e) T fun T' => .ret (e, T')) false h f fun r h _ => K r.1 r.2 h
theorem rdX_eq {R : Type} (cx : Ctx) (keeps : FuncId → List Nat) (n : Nat) (fx : Fx) (b : Nat) (x : Code) (base : Nat) (keep : Nat → List Nat) (T : Tm) (h : Hp) (K : Nat → Tm → Hp → Option R) :
    roundK base keep (evC cx (evF cx keeps n) fx b x) T h K = rdX cx keeps n fx b x base keep T h K := by
  unfold roundK rdX
  rw [run_bind, evCX_same cx (evFX_same cx keeps n)]
  simp only [runX_eq]
theorem varX_ok {X Y : Type} {base0 : Nat} {keep : Nat → List Nat} {cx : Ctx} {keeps : FuncId → List Nat} {n id nt : Nat} {kp : List Nat} {b : Nat} {c : Code} {s : StS} {flat : StD s → X} {un : X → StD s} (hss : strictS s = true) (hu : ∀ d, un (flat d) = d)
    {getY : Nat → Tm → Hp → Option Y} {outY : Y → (Nat × Tm) × Hp} (hY : ∀ c T h y, getY c T h = some y → ((c, T), h) = outY y) {step : X → Option (X ⊕ Y)}
    (hs : ∀ x, rdX cx keeps n ⟨id, nt, kp, base0⟩ b c base0 keep (sT s (un x)) (sH s (un x)) (rdO (fun T h => (rdS s T h).map flat) getY) = step x) {L : X → Option Y} (hL : ∀ x y, L x = some y → ∃ n, iterO step n x = some y)
    {alt : Y → Prog (Nat × Tm)} (ha : AltOk alt outY) {next : Nat → Tm → Prog (Nat × Tm)} (hn : VarOk keep (fun base => evC cx (evF cx keeps n) ⟨id, nt, kp, base⟩ b c) next) :
    VarOk keep (fun base => evC cx (evF cx keeps n) ⟨id, nt, kp, base⟩ b c) (varP base0 (fun T h => (rdS s T h).map flat) L alt next) :=
  varP_ok hss hu hY (fun x => (rdX_eq _ _ _ _ _ _ _ _ _ _ _).trans (hs x)) hL ha hn
end
end Go.Proofs.YtmjbedjnojcmfaaGreatDoor.Ex

namespace Go.Proofs.YtmjbedjnojcmfaaGreatDoor.Ex
set_option linter.unusedVariables false
set_option linter.unusedSimpArgs false
abbrev I := Int × Int
def fitB (n : Int) : Bool := decide (n ≥ -2147483648) && decide (n ≤ 2147483647)
def mx (a b : Int) : Int := if b > a then b else a
theorem wrap_id {n : Int} (h : -9223372036854775808 ≤ n) (h' : n ≤ 9223372036854775807) : IntKind.i64.wrap n = n := by
  have : IntKind.i64.wrap n = (n + 9223372036854775808) % 18446744073709551616 - 9223372036854775808 := by
    simp [IntKind.wrap, IntKind.signed, IntKind.bits]
    split <;> omega
  rw [this]; omega
theorem wr {n : Int} (h : n.natAbs ≤ 4611686018427387904) : IntKind.i64.wrap n = n := wrap_id (by omega) (by omega)
theorem mod_lt {a b : Int} (hb : b ≠ 0) : (a.tmod b).natAbs < b.natAbs := by
  rw [Int.natAbs_tmod]
  exact Nat.mod_lt _ (by omega)
section
variable {a b c d : Int} (hx : a ≤ b) (hy : c ≤ d)
include hx hy
omit hx hy in
end
def sub (x y : I) : Prop := y.1 ≤ x.1 ∧ x.2 ≤ y.2
end Go.Proofs.YtmjbedjnojcmfaaGreatDoor.Ex

namespace Go.Proofs.YtmjbedjnojcmfaaGreatDoor.Ex
set_option linter.unusedSectionVars false
set_option linter.unusedVariables false
section
def upd {σ X Y : Type} (mk : σ → X) (o : Option (σ ⊕ Y)) : Option (X ⊕ Y) := o.map (Sum.map mk id)
theorem upd_none {σ X Y : Type} (mk : σ → X) : upd (Y := Y) mk none = none := rfl
theorem upd_inl {σ X Y : Type} (mk : σ → X) (s : σ) : upd (Y := Y) mk (some (.inl s)) = some (.inl (mk s)) := rfl
theorem upd_inr {σ X Y : Type} (mk : σ → X) (y : Y) : upd mk (some (.inr y)) = some (.inr y) := rfl
theorem upd_cond {σ X Y : Type} (mk : σ → X) (b : Bool) (p q : Option (σ ⊕ Y)) : upd mk (bif b then p else q) = bif b then upd mk p else upd mk q := by cases b <;> rfl
theorem upd_optC {σ X Y A : Type} (mk : σ → X) (o : Option A) (n : Option (σ ⊕ Y)) (s : A → Option (σ ⊕ Y)) : upd mk (optC o n s) = optC o (upd mk n) fun a => upd mk (s a) := by cases o <;> rfl
theorem upd_elim {σ X Y A B : Type} (mk : σ → X) (o : A ⊕ B) (f : A → Option (σ ⊕ Y)) (g : B → Option (σ ⊕ Y)) : upd mk (Sum.elim f g o) = Sum.elim (fun a => upd mk (f a)) (fun a => upd mk (g a)) o := by cases o <;> rfl
theorem optC_some {A B : Type} (a : A) (n : B) (s : A → B) : optC (some a) n s = s a := rfl
def rangeO {σ α Y : Type} (f : Nat → σ → α → Option (σ ⊕ Y)) (fin : σ → Option Y) : Nat → List α → σ → Option Y
  | _, [], s => fin s
  | i, d :: r, s => match f i s d with
    | some (.inl s') => rangeO f fin (i + 1) r s'
    | some (.inr y) => some y
    | none => none
variable [RT]
theorem iterO_range {X Y σ α : Type} {step : X → Option (X ⊕ Y)} (l : List α) (mk : Nat → σ → X) (f : Nat → σ → α → Option (σ ⊕ Y)) (fin : σ → Option Y)
    (h1 : ∀ i s d, i < l.length → l[i]? = some d → step (mk i s) = upd (mk (i + 1)) (f i s d)) (h2 : ∀ s, step (mk l.length s) = (fin s).map .inr) :
    ∀ (r : List α) (i : Nat) (s : σ) (n : Nat), l.drop i = r → i ≤ l.length → r.length < n → iterO step n (mk i s) = rangeO f fin i r s
  | [], i, s, n, h, hi, hn => by
    have : i = l.length := by
      have := congrArg List.length h
      simp at this
      omega
    subst this
    obtain ⟨n, rfl⟩ : ∃ m, n = m + 1 := ⟨n - 1, by omega⟩
    rw [iterO, h2, rangeO]
    cases fin s <;> rfl
  | d :: r, i, s, n, h, hi, hn => by
    have hlt : i < l.length := by
      have := congrArg List.length h
      simp at this
      omega
    have hd : l[i]? = some d := by
      have := congrArg (fun q => q[0]?) h
      simpa using this
    obtain ⟨n, rfl⟩ : ∃ m, n = m + 1 := ⟨n - 1, by omega⟩
    rw [iterO, h1 i s d hlt hd, rangeO]
    cases hf : f i s d with
    | none => rfl
    | some x =>
      cases x with
      | inl s' =>
        simp only [upd, Option.map_some, Sum.map_inl]
        refine iterO_range l mk f fin h1 h2 r (i + 1) s' n ?_ hlt ?_
        · rw [← List.drop_drop, h]; rfl
        · simp only [List.length_cons] at hn; omega
      | inr y => rfl
theorem iterO_range0 {X Y σ α : Type} {step : X → Option (X ⊕ Y)} (l : List α) (mk : Nat → σ → X) (f : Nat → σ → α → Option (σ ⊕ Y)) (fin : σ → Option Y)
    (h1 : ∀ i s d, i < l.length → l[i]? = some d → step (mk i s) = upd (mk (i + 1)) (f i s d)) (h2 : ∀ s, step (mk l.length s) = (fin s).map .inr) (s : σ) {n : Nat} (hn : l.length < n) :
    iterO step n (mk 0 s) = rangeO f fin 0 l s := iterO_range l mk f fin h1 h2 l 0 s n rfl (Nat.zero_le _) hn
theorem wrap_next {i n : Nat} (h : i < n) (hn : n ≤ 9223372036854775807) : IntKind.i64.wrap ((i : Int) + 1) = ((i + 1 : Nat) : Int) := by
  have : IntKind.i64.wrap ((i : Int) + 1) = ((i : Int) + 1 + 9223372036854775808) % 18446744073709551616 - 9223372036854775808 := by
    simp [IntKind.wrap, IntKind.signed, IntKind.bits]
    split <;> omega
  rw [this]; omega
theorem wrap_fits {x : Int} (h1 : -9223372036854775808 ≤ x) (h2 : x ≤ 9223372036854775807) : IntKind.i64.wrap x = x := by
  have : IntKind.i64.wrap x = (x + 9223372036854775808) % 18446744073709551616 - 9223372036854775808 := by
    simp [IntKind.wrap, IntKind.signed, IntKind.bits]
    split <;> omega
  rw [this]; omega
end
end Go.Proofs.YtmjbedjnojcmfaaGreatDoor.Ex

namespace Go.Proofs.YtmjbedjnojcmfaaGreatDoor.Ex
set_option linter.unusedVariables false
abbrev tA : Ty := (.st (.pair (.int .i64) (.pair (.int .i64) (.pair (.int .i64) (.pair (.int .i64) (.pair (.int .i64) (.pair (.int .i64) (.pair (.int .i64) (.pair (.int .i64) (.int .i64))))))))))
abbrev A := Int × Int × Int × Int × Int × Int × Int × Int × Int
abbrev tC : Ty := (.st (.pair (.int .i64) (.sl tA)))
abbrev C := Int × List A
abbrev tU : Ty := (.st (.pair (.sl (.int .i64)) (.pair (.sl (.int .i64)) (.pair (.int .i64) (.sl tC)))))
abbrev U := List Int × List Int × Int × List C
abbrev tGb : Ty := (.st (.pair .str (.int .i64)))
abbrev Gb := ByteArray × Int
abbrev tX : Ty := (.st (.pair (.int .i64) (.pair (.int .i64) (.pair (.int .i64) (.pair .str (.sl (.mu 0)))))))
abbrev Xp := Int × Int × Int × ByteArray × List T0
abbrev tCd : Ty := (.st (.pair (.int .i64) (.pair (.int .i64) (.pair (.sl (.mu 0)) (.sl (.mu 1))))))
abbrev Cd := Int × Int × List T0 × List T1
abbrev tSm : Ty := (.st (.pair (.int .i64) (.pair .str (.pair tX (.pair tX (.pair tCd (.pair (.sl (.mu 2)) (.sl (.mu 2)))))))))
abbrev Stm := Int × ByteArray × Xp × Xp × Cd × List T2 × List T2
abbrev tTh : Ty := (.st (.pair .str (.pair (.sl .str) (.sl (.mu 2)))))
abbrev Th := ByteArray × List ByteArray × List T2
abbrev tPg : Ty := (.st (.pair (.sl tGb) (.pair (.sl tGb) (.pair (.sl .str) (.sl tTh)))))
abbrev Pg := List Gb × List Gb × List ByteArray × List Th
abbrev uT0 (x : T0) : Xp := trU 0 x
abbrev uT1 (x : T1) : Cd := trU 1 x
abbrev uT2 (x : T2) : Stm := trU 2 x
noncomputable def bodyX (g b : Nat) : Code := ((inl g).bind (·.body)).elim .skip (lpx · b)
abbrev FUEL : Nat := 18446744073709551616
theorem loops_in {b : Nat} {x : Code} : ∀ (c : Code) (b0 : Nat), (b, x) ∈ loopsOf b0 c → ∀ q ∈ loopsOf b x, q ∈ loopsOf b0 c
  | .seq y z, b0, h, q, hq => by
    simp only [loopsOf, List.mem_append] at h ⊢
    exact h.imp (fun h => loops_in y b0 h q hq) (fun h => loops_in z b0 h q hq)
  | .cond _ y z, b0, h, q, hq => by
    simp only [loopsOf, List.mem_append] at h ⊢
    exact h.imp (fun h => loops_in y b0 h q hq) (fun h => loops_in z b0 h q hq)
  | .block id y, b0, h, q, hq => by
    simp only [loopsOf] at h ⊢
    exact loops_in y id h q hq
  | .loop y, b0, h, q, hq => by
    simp only [loopsOf, List.mem_cons, Prod.mk.injEq] at h ⊢
    rcases h with ⟨rfl, rfl⟩ | h
    · exact .inr hq
    · exact .inr (loops_in y b0 h q hq)
theorem hl_of {P : Program} {cx : Ctx} {g b n : Nat} (hi : InlOk P cx) (hx : cx.inl = inl) (hk : ((inl g).elim false fun fn => fn.ntmps.beq n && fn.body.elim false fun c => ((loopsOf 0 c).find? fun q => Nat.beq q.1 b).isSome) = true) :
    ∀ q ∈ loopsOf b (bodyX g b), ∀ p, cx.lps g q.1 = some p → SoundC P n (.loop q.2) p := by
  intro q hq p hp
  unfold bodyX at hq
  cases hg : inl g with
  | none => rw [hg] at hk; cases hk
  | some fn =>
    rw [hg] at hk hq
    simp only [Option.elim_some, Option.bind_some, Bool.and_eq_true] at hk hq
    obtain ⟨hn, hk⟩ := hk
    obtain rfl := nb_iff.1 hn
    cases hb : fn.body with
    | none => rw [hb] at hk; cases hk
    | some c =>
      rw [hb] at hk hq
      simp only [Option.elim_some] at hk hq
      unfold lpx at hq
      cases hf : (loopsOf 0 c).find? fun q => Nat.beq q.1 b with
      | none => rw [hf] at hk; cases hk
      | some r =>
        rw [hf] at hq
        simp only at hq
        have h1 := List.mem_of_find?_eq_some hf
        have h2 := List.find?_some hf
        obtain ⟨k, x⟩ := r
        simp only at h2 hq
        obtain rfl := nb_iff.1 h2
        exact hi.lps g fn c (by rw [hx]; exact hg) hb q (loops_in c 0 h1 q hq) p hp
open Go.Proofs Go.Proofs.YtmjbedjnojcmfaaGreatDoor
set_option maxRecDepth 100000
noncomputable def ndB (g : Nat) : Bool := ((inl g).bind (·.body)).elim false (fun c => nodupN ((loopsOf 0 c).map (·.1)))
structure Con where
  g : Nat
  p : List AV → Prog AV
  s : SoundA Tryz.prog g p
noncomputable def spL : List Con → Nat → Option (List AV → Prog AV)
  | [], _ => none
  | c :: r, g => bif c.g.beq g then some c.p else spL r g
theorem hspL : ∀ (l : List Con) (g : Nat) (p : List AV → Prog AV), spL l g = some p → SoundA Tryz.prog g p
  | [], _, _, h => nomatch h
  | c :: r, g, p, h => by
    unfold spL at h
    cases e : c.g.beq g
    · rw [e] at h; exact hspL r g p h
    · rw [e] at h
      cases h
      obtain rfl := Nat.eq_of_beq_eq_true e
      exact c.s
structure Lpc where
  g : Nat
  b : Nat
  n : Nat
  p : Nat → Tm → Prog (Nat × Tm)
  d : ndB g = true
  e : (inl g).elim 0 (·.ntmps) = n
  s : SoundC Tryz.prog n (.loop (bodyX g b)) p
noncomputable def lpL : List Lpc → Nat → Nat → Option (Nat → Tm → Prog (Nat × Tm))
  | [], _, _ => none
  | c :: r, g, b => bif c.g.beq g && c.b.beq b then some c.p else lpL r g b
theorem lpL_some : ∀ (l : List Lpc) (g b : Nat) (p : Nat → Tm → Prog (Nat × Tm)), lpL l g b = some p → ∃ c : Lpc, c.g = g ∧ c.b = b ∧ c.p = p
  | [], _, _, _, h => nomatch h
  | c :: r, g, b, p, h => by
    unfold lpL at h
    cases e : (c.g.beq g && c.b.beq b)
    · rw [e] at h; exact lpL_some r g b p h
    · rw [e] at h
      cases h
      simp only [Bool.and_eq_true] at e
      exact ⟨c, Nat.eq_of_beq_eq_true e.1, Nat.eq_of_beq_eq_true e.2, rfl⟩
noncomputable def cxU (sp : List Con) (lp : List Lpc) (fu sn : Nat) : Ctx := { tab := tab, spec := spL sp, inl := inl, lps := lpL lp, fuel := fu, spn := sn, vr := Nat.beq (sn % 2) 1 }
theorem inU (sp : List Con) (lp : List Lpc) (fu sn : Nat) : InlOk Tryz.prog (cxU sp lp fu sn) := ⟨inl_ok, fun g fn c hg hb q hq p hp => by
  change lpL lp g q.1 = some p at hp
  change inl g = some fn at hg
  obtain ⟨l, e1, e2, rfl⟩ := lpL_some lp g q.1 p hp
  subst e1
  exact lps_case (inl := inl) hg hb hq e2.symm l.d l.e l.s⟩
theorem calU (sp : List Con) (lp : List Lpc) (fu sn D g : Nat) : SoundA Tryz.prog g (evF (cxU sp lp fu sn) keeps D g) := evF_sound (tabOk_of tab_ok) (cmpsOk_of tab_ok cmps_ok) mixed (inU sp lp fu sn) (hspL sp) keeps D g
noncomputable def lpB (g b n : Nat) : Bool := (inl g).elim false fun fn => fn.ntmps.beq n && fn.body.elim false fun c => ((loopsOf 0 c).find? fun q => Nat.beq q.1 b).isSome
theorem loopU (sp : List Con) (lp : List Lpc) (fu sn D : Nat) {g b n : Nat} {keep : Nat → List Nat} {q : Nat → Tm → Prog (Nat × Tm)} (hk : lpB g b n = true)
    (ok : VarOk keep (fun base => evC (cxU sp lp fu sn) (evF (cxU sp lp fu sn) keeps D) ⟨g, n, keeps g, base⟩ b (bodyX g b)) q) : SoundC Tryz.prog n (.loop (bodyX g b)) (fun base T => .norm base (keep 0) T (q base)) :=
  loopK_sound (cx := cxU sp lp fu sn) (cal := evF (cxU sp lp fu sn) keeps D) (kp := keeps g) (tabOk_of tab_ok) (cmpsOk_of tab_ok cmps_ok) (calU sp lp fu sn D) mixed (hl_of (g := g) (b := b) (inU sp lp fu sn) rfl hk) ok
end Go.Proofs.YtmjbedjnojcmfaaGreatDoor.Ex

namespace Go.Proofs.YtmjbedjnojcmfaaGreatDoor.Ex
open Go.Proofs Go.Shelf Go.Proofs.YtmjbedjnojcmfaaGreatDoor
end Go.Proofs.YtmjbedjnojcmfaaGreatDoor.Ex

namespace Go.Proofs.YtmjbedjnojcmfaaGreatDoor.Ex
open Go.Proofs Go.Sort Go.RowKit Go.Lib
set_option maxRecDepth 100000
set_option maxHeartbeats 2000000
set_option linter.unusedVariables false
set_option linter.unusedSimpArgs false
set_option linter.unusedSectionVars false
section
variable {P : Program}
end
end Go.Proofs.YtmjbedjnojcmfaaGreatDoor.Ex

namespace Go.Proofs.YtmjbedjnojcmfaaGreatDoor.Ex
open Go.Proofs
set_option linter.unusedVariables false
set_option linter.unusedSimpArgs false
end Go.Proofs.YtmjbedjnojcmfaaGreatDoor.Ex

namespace Go.Proofs.YtmjbedjnojcmfaaGreatDoor.Ex
open Go.Proofs Go.Proofs.YtmjbedjnojcmfaaGreatDoor
set_option maxRecDepth 100000
set_option maxHeartbeats 2000000
set_option linter.unusedVariables false
set_option linter.unusedSimpArgs false
def ash_ref1_Fits : List Sh := [.dat (.int .i64)]
noncomputable def sp_ref1_Fits : List Con := []
noncomputable def g_ref1_Fits (a0 : Int) : Option Bool :=
  bif decide (a0 ≥ -2147483648) then some (decide (a0 ≤ 2147483647)) else some false
theorem raw_ref1_Fits (a0 : Int) : evGX (cxU sp_ref1_Fits [] 40 1048576) keeps 8 63 ash_ref1_Fits (.dat .bool) ((a0, ()) : (Int × Unit)) = g_ref1_Fits a0 := by kernel_rfl
noncomputable def G_ref1_Fits (x : (Int × Unit)) : Option Bool := g_ref1_Fits x.1
noncomputable def con_ref1_Fits : List AV → Prog AV := conP true ash_ref1_Fits (.dat .bool) G_ref1_Fits
theorem snd_ref1_Fits : SoundA Tryz.prog 63 con_ref1_Fits := conP_sound (calU sp_ref1_Fits [] 40 1048576 8 63) true (by rfl) (by rfl) (fun x r e => (evGX_eq _ _ _ _ _ _ _).trans ((raw_ref1_Fits x.1).trans e)) (.inl rfl)
end Go.Proofs.YtmjbedjnojcmfaaGreatDoor.Ex

namespace Go.Proofs.YtmjbedjnojcmfaaGreatDoor.Ex
open Go.Proofs Go.Proofs.YtmjbedjnojcmfaaGreatDoor
set_option maxRecDepth 100000
set_option maxHeartbeats 2000000
set_option linter.unusedVariables false
set_option linter.unusedSimpArgs false
end Go.Proofs.YtmjbedjnojcmfaaGreatDoor.Ex

namespace Go.Proofs.YtmjbedjnojcmfaaGreatDoor.Ex
set_option maxRecDepth 100000
set_option maxHeartbeats 2000000
set_option linter.unusedVariables false
set_option linter.unusedSimpArgs false
end Go.Proofs.YtmjbedjnojcmfaaGreatDoor.Ex

namespace Go.Proofs.YtmjbedjnojcmfaaGreatDoor.Ex
open Go.Proofs Go.Proofs.YtmjbedjnojcmfaaGreatDoor
set_option maxRecDepth 100000
set_option maxHeartbeats 2000000
set_option linter.unusedVariables false
set_option linter.unusedSimpArgs false
def ash_ref8_in : List Sh := [.dat (.int .i64), .dat (.int .i64)]
noncomputable def sp_ref8_in : List Con := []
noncomputable def g_ref8_in (a0 : Int) (a1 : Int) : Option Bool :=
  bif decide (a0 ≥ 0) then some (decide (a0 < a1)) else some false
theorem raw_ref8_in (a0 : Int) (a1 : Int) : evGX (cxU sp_ref8_in [] 40 1048576) keeps 8 62 ash_ref8_in (.dat .bool) ((a0, a1, ()) : (Int × (Int × Unit))) = g_ref8_in a0 a1 := by kernel_rfl
noncomputable def G_ref8_in (x : (Int × (Int × Unit))) : Option Bool := g_ref8_in x.1 x.2.1
noncomputable def con_ref8_in : List AV → Prog AV := conP true ash_ref8_in (.dat .bool) G_ref8_in
theorem snd_ref8_in : SoundA Tryz.prog 62 con_ref8_in := conP_sound (calU sp_ref8_in [] 40 1048576 8 62) true (by rfl) (by rfl) (fun x r e => (evGX_eq _ _ _ _ _ _ _).trans ((raw_ref8_in x.1 x.2.1).trans e)) (.inl rfl)
end Go.Proofs.YtmjbedjnojcmfaaGreatDoor.Ex

namespace Go.Proofs.YtmjbedjnojcmfaaGreatDoor.Ex
open Go.Proofs Go.Proofs.YtmjbedjnojcmfaaGreatDoor
set_option maxRecDepth 100000
set_option maxHeartbeats 2000000
set_option linter.unusedVariables false
set_option linter.unusedSimpArgs false
def ash_ref8_uses : List Sh := [.dat (.int .i64), .dat (.int .i64)]
def kp_ref8_uses_141_0 : Nat → List Nat := fun c => bif c.beq 0 then [5, 6, 7] else [4]
noncomputable def sp_ref8_uses : List Con := []
def s_ref8_uses_141_0_0 : StS := ⟨[(5, .str), (6, .int .u8), (7, .int .i64)], [], 0⟩
def x_ref8_uses_141_0_0_0 : StS := ⟨[(4, .undef)], [], 0⟩
def x_ref8_uses_141_0_0_1 : StS := ⟨[(4, .bool)], [], 0⟩
abbrev X_ref8_uses_141_0_0 := (ByteArray × Int × Int)
def fl_ref8_uses_141_0_0 (d : StD s_ref8_uses_141_0_0) : X_ref8_uses_141_0_0 := (d.1.1, d.1.2.1, d.1.2.2.1)
def un_ref8_uses_141_0_0 (x : X_ref8_uses_141_0_0) : StD s_ref8_uses_141_0_0 := ((x.1, x.2.1, x.2.2, ()), ())
abbrev X_ref8_uses_141_0_0_0 := Unit
def fl_ref8_uses_141_0_0_0 (d : StD x_ref8_uses_141_0_0_0) : X_ref8_uses_141_0_0_0 := ()
def un_ref8_uses_141_0_0_0 (x : X_ref8_uses_141_0_0_0) : StD x_ref8_uses_141_0_0_0 := (((), ()), ())
abbrev X_ref8_uses_141_0_0_1 := Bool
def fl_ref8_uses_141_0_0_1 (d : StD x_ref8_uses_141_0_0_1) : X_ref8_uses_141_0_0_1 := (d.1.1)
def un_ref8_uses_141_0_0_1 (x : X_ref8_uses_141_0_0_1) : StD x_ref8_uses_141_0_0_1 := ((x, ()), ())
noncomputable def st_ref8_uses_141_0_0 (s5 : ByteArray) (s6 : Int) (s7 : Int) : Option ((ByteArray × Int × Int) ⊕ (Unit ⊕ Bool)) :=
  bif decide (s7 < (↑s5.size : Int)) then
 bif decide (0 ≤ s7) then
 optC s5[s7.toNat]? none fun d5 ↦ bif (↑d5.toNat : Int) == s6 then some (Sum.inr (Sum.inr true)) else some (Sum.inl (s5, s6, Go.IntKind.i64.wrap (s7 + 1)))
 else none
 else some (Sum.inr (Sum.inl PUnit.unit))
noncomputable def sx_ref8_uses_141_0_0 (x : X_ref8_uses_141_0_0) : Option (X_ref8_uses_141_0_0 ⊕ (X_ref8_uses_141_0_0_0 ⊕ X_ref8_uses_141_0_0_1)) := st_ref8_uses_141_0_0 x.1 x.2.1 x.2.2
theorem rn_ref8_uses_141_0_0 (x : X_ref8_uses_141_0_0) : rdX (cxU sp_ref8_uses [] 40 1048576) keeps 8 ⟨141, 25, keeps 141, 0⟩ 0 (bodyX 141 0) 0 kp_ref8_uses_141_0 (sT s_ref8_uses_141_0_0 (un_ref8_uses_141_0_0 x)) (sH s_ref8_uses_141_0_0 (un_ref8_uses_141_0_0 x)) (rdO (fun T h => (rdS s_ref8_uses_141_0_0 T h).map fl_ref8_uses_141_0_0) (getOr (getE 2 x_ref8_uses_141_0_0_0 fl_ref8_uses_141_0_0_0) (getE 1 x_ref8_uses_141_0_0_1 fl_ref8_uses_141_0_0_1))) = sx_ref8_uses_141_0_0 x := by kernel_rfl
noncomputable def L_ref8_uses_141_0_0 (x : X_ref8_uses_141_0_0) : Option (X_ref8_uses_141_0_0_0 ⊕ X_ref8_uses_141_0_0_1) := iterO (fun x => st_ref8_uses_141_0_0 x.1 x.2.1 x.2.2) FUEL x
noncomputable def q_ref8_uses_141_0 : Nat → Tm → Prog (Nat × Tm) := (varP 0 (fun T h => (rdS s_ref8_uses_141_0_0 T h).map fl_ref8_uses_141_0_0) L_ref8_uses_141_0_0 (fun y => .alt y (altE 2 x_ref8_uses_141_0_0_0 un_ref8_uses_141_0_0_0) (altE 1 x_ref8_uses_141_0_0_1 un_ref8_uses_141_0_0_1)) (fun _ _ => .fail))
noncomputable def lc_ref8_uses_141_0 : Lpc := ⟨141, 0, 25, (fun base T => .norm base (kp_ref8_uses_141_0 0) T (q_ref8_uses_141_0 base)), by kernel_rfl, by kernel_rfl, (loopU sp_ref8_uses [] 40 1048576 8 (keep := kp_ref8_uses_141_0) (q := q_ref8_uses_141_0) (by kernel_rfl) (varX_ok (s := s_ref8_uses_141_0_0) (un := un_ref8_uses_141_0_0) (by rfl) (fun _ => rfl) (getOr_ok (getE_ok (s := x_ref8_uses_141_0_0_0) (un := un_ref8_uses_141_0_0_0) (by rfl) (fun _ => rfl)) (getE_ok (s := x_ref8_uses_141_0_0_1) (un := un_ref8_uses_141_0_0_1) (by rfl) (fun _ => rfl))) (step := sx_ref8_uses_141_0_0) rn_ref8_uses_141_0_0 (fun _ _ e => ⟨_, e⟩) (altOr_ok (altE_ok 2 x_ref8_uses_141_0_0_0 un_ref8_uses_141_0_0_0) (altE_ok 1 x_ref8_uses_141_0_0_1 un_ref8_uses_141_0_0_1)) (VarOk.fail _ _)))⟩
noncomputable def g_ref8_uses (a0 : Int) (a1 : Int) : Option Bool :=
  bif decide (0 ≤ a0) then
 optC
 [ByteArray.mk #[], ByteArray.mk #[84], ByteArray.mk #[84, 88], ByteArray.mk #[84], ByteArray.mk #[84, 88, 89], ByteArray.mk #[84, 71], ByteArray.mk #[71, 88], ByteArray.mk #[84, 71, 88],
 ByteArray.mk #[71, 88, 89], ByteArray.mk #[71], ByteArray.mk #[71], ByteArray.mk #[88, 89], ByteArray.mk #[], ByteArray.mk #[], ByteArray.mk #[]][a0.toNat]?
 none fun d4 ↦
 optC
 [ByteArray.mk #[], ByteArray.mk #[84], ByteArray.mk #[84, 88], ByteArray.mk #[84], ByteArray.mk #[84, 88, 89], ByteArray.mk #[84, 71], ByteArray.mk #[71, 88], ByteArray.mk #[84, 71, 88],
 ByteArray.mk #[71, 88, 89], ByteArray.mk #[71], ByteArray.mk #[71], ByteArray.mk #[88, 89], ByteArray.mk #[], ByteArray.mk #[], ByteArray.mk #[]][a0.toNat]?
 none fun d5 ↦
 bif decide (0 ≤ a1) then
 optC (ByteArray.mk #[32, 84, 88, 89, 71])[a1.toNat]? none fun d6 ↦
 optC (L_ref8_uses_141_0_0 (d5, (↑d6.toNat : Int), 0)) none fun d7 ↦ Sum.elim (fun e8 ↦ some false) (fun e8 ↦ some e8) d7
 else none
 else none
theorem raw_ref8_uses (a0 : Int) (a1 : Int) : evGX (cxU sp_ref8_uses [lc_ref8_uses_141_0] 40 1048576) keeps 8 141 ash_ref8_uses (.dat .bool) ((a0, a1, ()) : (Int × (Int × Unit))) = g_ref8_uses a0 a1 := by kernel_rfl
noncomputable def G_ref8_uses (x : (Int × (Int × Unit))) : Option Bool := g_ref8_uses x.1 x.2.1
noncomputable def con_ref8_uses : List AV → Prog AV := conP true ash_ref8_uses (.dat .bool) G_ref8_uses
theorem snd_ref8_uses : SoundA Tryz.prog 141 con_ref8_uses := conP_sound (calU sp_ref8_uses [lc_ref8_uses_141_0] 40 1048576 8 141) true (by rfl) (by rfl) (fun x r e => (evGX_eq _ _ _ _ _ _ _).trans ((raw_ref8_uses x.1 x.2.1).trans e)) (.inl rfl)
end Go.Proofs.YtmjbedjnojcmfaaGreatDoor.Ex

namespace Go.Proofs.YtmjbedjnojcmfaaGreatDoor.Ex
open Go.Proofs Go.Proofs.YtmjbedjnojcmfaaGreatDoor
set_option maxRecDepth 100000
set_option maxHeartbeats 2000000
set_option linter.unusedVariables false
set_option linter.unusedSimpArgs false
def ash_ref8_has : List Sh := [.dat (.int .i64), .dat (.int .i64), .dat (.int .i64), .dat (.int .i64)]
noncomputable def sp_ref8_has : List Con := [⟨141, con_ref8_uses, snd_ref8_uses⟩, ⟨62, con_ref8_in, snd_ref8_in⟩]
noncomputable def g_ref8_has (a0 : Int) (a1 : Int) (a2 : Int) (a3 : Int) : Option Bool :=
  optC (G_ref8_uses (a0, a1, ())) none fun d5 ↦ bif d5 then optC (G_ref8_in (a2, a3, ())) none fun d6 ↦ some d6 else some (a2 == 0)
theorem raw_ref8_has (a0 : Int) (a1 : Int) (a2 : Int) (a3 : Int) : evGX (cxU sp_ref8_has [] 40 1048576) keeps 8 111 ash_ref8_has (.dat .bool) ((a0, a1, a2, a3, ()) : (Int × (Int × (Int × (Int × Unit))))) = g_ref8_has a0 a1 a2 a3 := by kernel_rfl
noncomputable def G_ref8_has (x : (Int × (Int × (Int × (Int × Unit))))) : Option Bool := g_ref8_has x.1 x.2.1 x.2.2.1 x.2.2.2.1
noncomputable def con_ref8_has : List AV → Prog AV := conP true ash_ref8_has (.dat .bool) G_ref8_has
theorem snd_ref8_has : SoundA Tryz.prog 111 con_ref8_has := conP_sound (calU sp_ref8_has [] 40 1048576 8 111) true (by rfl) (by rfl) (fun x r e => (evGX_eq _ _ _ _ _ _ _).trans ((raw_ref8_has x.1 x.2.1 x.2.2.1 x.2.2.2.1).trans e)) (.inl rfl)
end Go.Proofs.YtmjbedjnojcmfaaGreatDoor.Ex

namespace Go.Proofs.YtmjbedjnojcmfaaGreatDoor.Ex
open Go.Proofs Go.Proofs.YtmjbedjnojcmfaaGreatDoor
set_option maxRecDepth 100000
set_option maxHeartbeats 2000000
set_option linter.unusedVariables false
set_option linter.unusedSimpArgs false
def ash_ref8_act : List Sh := [.dat tU, .dat tC, .dat tA]
noncomputable def sp_ref8_act : List Con := [⟨63, con_ref1_Fits, snd_ref1_Fits⟩, ⟨62, con_ref8_in, snd_ref8_in⟩, ⟨111, con_ref8_has, snd_ref8_has⟩]
noncomputable def g_ref8_act (a0 : U) (a1 : C) (a2 : A) : Option Bool :=
  bif a2.1 == 1 then
 bif a2.1 != 1 then
 bif a2.2.2.2.2.2.1 != 0 then some false
 else
 optC (G_ref1_Fits (a2.2.2.2.2.2.1, ())) none fun d4 ↦
 bif !d4 then some false
 else
 optC (G_ref8_in (a2.2.2.2.2.2.2.2.1, (↑(List.length a1.2) : Int), ())) none fun d5 ↦
 bif !d5 then some false
 else
 optC (G_ref8_in (a2.2.2.2.2.2.2.2.2, (↑(List.length a1.2) : Int), ())) none fun d6 ↦
 bif !d6 then some false
 else
 bif a2.1 != 11 then
 bif a2.2.2.2.2.2.2.2.2 != 0 then some false
 else
 bif a2.2.2.2.2.2.2.1 != 0 then some false
 else
 optC (G_ref8_has (a2.1, 1, a2.2.1, a1.1, ())) none fun d7 ↦
 bif d7 then
 optC (G_ref8_has (a2.1, 2, a2.2.2.1, 0, ())) none fun d8 ↦
 bif d8 then
 optC (G_ref8_has (a2.1, 3, a2.2.2.2.1, 0, ())) none fun d9 ↦
 bif d9 then optC (G_ref8_has (a2.1, 4, a2.2.2.2.2.1, 0, ())) none fun d10 ↦ some d10 else some false
 else some false
 else some false
 else
 bif a2.2.2.2.2.2.2.1 != 0 then some false
 else
 optC (G_ref8_has (a2.1, 1, a2.2.1, a1.1, ())) none fun d7 ↦
 bif d7 then
 optC (G_ref8_has (a2.1, 2, a2.2.2.1, 0, ())) none fun d8 ↦
 bif d8 then
 optC (G_ref8_has (a2.1, 3, a2.2.2.2.1, 0, ())) none fun d9 ↦
 bif d9 then optC (G_ref8_has (a2.1, 4, a2.2.2.2.2.1, 0, ())) none fun d10 ↦ some d10 else some false
 else some false
 else some false
 else
 optC (G_ref1_Fits (a2.2.2.2.2.2.1, ())) none fun d4 ↦
 bif !d4 then some false
 else
 optC (G_ref8_in (a2.2.2.2.2.2.2.2.1, (↑(List.length a1.2) : Int), ())) none fun d5 ↦
 bif !d5 then some false
 else
 optC (G_ref8_in (a2.2.2.2.2.2.2.2.2, (↑(List.length a1.2) : Int), ())) none fun d6 ↦
 bif !d6 then some false
 else
 bif a2.1 != 11 then
 bif a2.2.2.2.2.2.2.2.2 != 0 then some false
 else
 bif a2.2.2.2.2.2.2.1 != 0 then some false
 else
 optC (G_ref8_has (a2.1, 1, a2.2.1, a1.1, ())) none fun d7 ↦
 bif d7 then
 optC (G_ref8_has (a2.1, 2, a2.2.2.1, 0, ())) none fun d8 ↦
 bif d8 then
 optC (G_ref8_has (a2.1, 3, a2.2.2.2.1, 0, ())) none fun d9 ↦
 bif d9 then optC (G_ref8_has (a2.1, 4, a2.2.2.2.2.1, 0, ())) none fun d10 ↦ some d10 else some false
 else some false
 else some false
 else
 bif a2.2.2.2.2.2.2.1 != 0 then some false
 else
 optC (G_ref8_has (a2.1, 1, a2.2.1, a1.1, ())) none fun d7 ↦
 bif d7 then
 optC (G_ref8_has (a2.1, 2, a2.2.2.1, 0, ())) none fun d8 ↦
 bif d8 then
 optC (G_ref8_has (a2.1, 3, a2.2.2.2.1, 0, ())) none fun d9 ↦
 bif d9 then optC (G_ref8_has (a2.1, 4, a2.2.2.2.2.1, 0, ())) none fun d10 ↦ some d10 else some false
 else some false
 else some false
 else
 bif a2.1 == 3 then
 bif a2.1 != 1 then
 bif a2.2.2.2.2.2.1 != 0 then some false
 else
 optC (G_ref1_Fits (a2.2.2.2.2.2.1, ())) none fun d4 ↦
 bif !d4 then some false
 else
 optC (G_ref8_in (a2.2.2.2.2.2.2.2.1, (↑(List.length a1.2) : Int), ())) none fun d5 ↦
 bif !d5 then some false
 else
 optC (G_ref8_in (a2.2.2.2.2.2.2.2.2, (↑(List.length a1.2) : Int), ())) none fun d6 ↦
 bif !d6 then some false
 else
 bif a2.1 != 11 then
 bif a2.2.2.2.2.2.2.2.2 != 0 then some false
 else
 bif a2.2.2.2.2.2.2.1 != 0 then some false
 else
 optC (G_ref8_has (a2.1, 1, a2.2.1, a1.1, ())) none fun d7 ↦
 bif d7 then
 optC (G_ref8_has (a2.1, 2, a2.2.2.1, 0, ())) none fun d8 ↦
 bif d8 then
 optC (G_ref8_has (a2.1, 3, a2.2.2.2.1, 0, ())) none fun d9 ↦
 bif d9 then optC (G_ref8_has (a2.1, 4, a2.2.2.2.2.1, 0, ())) none fun d10 ↦ some d10 else some false
 else some false
 else some false
 else
 bif a2.2.2.2.2.2.2.1 != 0 then some false
 else
 optC (G_ref8_has (a2.1, 1, a2.2.1, a1.1, ())) none fun d7 ↦
 bif d7 then
 optC (G_ref8_has (a2.1, 2, a2.2.2.1, 0, ())) none fun d8 ↦
 bif d8 then
 optC (G_ref8_has (a2.1, 3, a2.2.2.2.1, 0, ())) none fun d9 ↦
 bif d9 then optC (G_ref8_has (a2.1, 4, a2.2.2.2.2.1, 0, ())) none fun d10 ↦ some d10 else some false
 else some false
 else some false
 else
 optC (G_ref1_Fits (a2.2.2.2.2.2.1, ())) none fun d4 ↦
 bif !d4 then some false
 else
 optC (G_ref8_in (a2.2.2.2.2.2.2.2.1, (↑(List.length a1.2) : Int), ())) none fun d5 ↦
 bif !d5 then some false
 else
 optC (G_ref8_in (a2.2.2.2.2.2.2.2.2, (↑(List.length a1.2) : Int), ())) none fun d6 ↦
 bif !d6 then some false
 else
 bif a2.1 != 11 then
 bif a2.2.2.2.2.2.2.2.2 != 0 then some false
 else
 bif a2.2.2.2.2.2.2.1 != 0 then some false
 else
 optC (G_ref8_has (a2.1, 1, a2.2.1, a1.1, ())) none fun d7 ↦
 bif d7 then
 optC (G_ref8_has (a2.1, 2, a2.2.2.1, 0, ())) none fun d8 ↦
 bif d8 then
 optC (G_ref8_has (a2.1, 3, a2.2.2.2.1, 0, ())) none fun d9 ↦
 bif d9 then optC (G_ref8_has (a2.1, 4, a2.2.2.2.2.1, 0, ())) none fun d10 ↦ some d10 else some false
 else some false
 else some false
 else
 bif a2.2.2.2.2.2.2.1 != 0 then some false
 else
 optC (G_ref8_has (a2.1, 1, a2.2.1, a1.1, ())) none fun d7 ↦
 bif d7 then
 optC (G_ref8_has (a2.1, 2, a2.2.2.1, 0, ())) none fun d8 ↦
 bif d8 then
 optC (G_ref8_has (a2.1, 3, a2.2.2.2.1, 0, ())) none fun d9 ↦
 bif d9 then optC (G_ref8_has (a2.1, 4, a2.2.2.2.2.1, 0, ())) none fun d10 ↦ some d10 else some false
 else some false
 else some false
 else
 bif a2.1 == 2 then
 bif a2.1 != 1 then
 bif a2.2.2.2.2.2.1 != 0 then some false
 else
 optC (G_ref1_Fits (a2.2.2.2.2.2.1, ())) none fun d4 ↦
 bif !d4 then some false
 else
 optC (G_ref8_in (a2.2.2.2.2.2.2.2.1, (↑(List.length a1.2) : Int), ())) none fun d5 ↦
 bif !d5 then some false
 else
 optC (G_ref8_in (a2.2.2.2.2.2.2.2.2, (↑(List.length a1.2) : Int), ())) none fun d6 ↦
 bif !d6 then some false
 else
 bif a2.1 != 11 then
 bif a2.2.2.2.2.2.2.2.2 != 0 then some false
 else
 bif a2.2.2.2.2.2.2.1 != 0 then some false
 else
 optC (G_ref8_has (a2.1, 1, a2.2.1, a1.1, ())) none fun d7 ↦
 bif d7 then
 optC (G_ref8_has (a2.1, 2, a2.2.2.1, a1.1, ())) none fun d8 ↦
 bif d8 then
 optC (G_ref8_has (a2.1, 3, a2.2.2.2.1, 0, ())) none fun d9 ↦
 bif d9 then optC (G_ref8_has (a2.1, 4, a2.2.2.2.2.1, 0, ())) none fun d10 ↦ some d10 else some false
 else some false
 else some false
 else
 bif a2.2.2.2.2.2.2.1 != 0 then some false
 else
 optC (G_ref8_has (a2.1, 1, a2.2.1, a1.1, ())) none fun d7 ↦
 bif d7 then
 optC (G_ref8_has (a2.1, 2, a2.2.2.1, a1.1, ())) none fun d8 ↦
 bif d8 then
 optC (G_ref8_has (a2.1, 3, a2.2.2.2.1, 0, ())) none fun d9 ↦
 bif d9 then optC (G_ref8_has (a2.1, 4, a2.2.2.2.2.1, 0, ())) none fun d10 ↦ some d10 else some false
 else some false
 else some false
 else
 optC (G_ref1_Fits (a2.2.2.2.2.2.1, ())) none fun d4 ↦
 bif !d4 then some false
 else
 optC (G_ref8_in (a2.2.2.2.2.2.2.2.1, (↑(List.length a1.2) : Int), ())) none fun d5 ↦
 bif !d5 then some false
 else
 optC (G_ref8_in (a2.2.2.2.2.2.2.2.2, (↑(List.length a1.2) : Int), ())) none fun d6 ↦
 bif !d6 then some false
 else
 bif a2.1 != 11 then
 bif a2.2.2.2.2.2.2.2.2 != 0 then some false
 else
 bif a2.2.2.2.2.2.2.1 != 0 then some false
 else
 optC (G_ref8_has (a2.1, 1, a2.2.1, a1.1, ())) none fun d7 ↦
 bif d7 then
 optC (G_ref8_has (a2.1, 2, a2.2.2.1, a1.1, ())) none fun d8 ↦
 bif d8 then
 optC (G_ref8_has (a2.1, 3, a2.2.2.2.1, 0, ())) none fun d9 ↦
 bif d9 then optC (G_ref8_has (a2.1, 4, a2.2.2.2.2.1, 0, ())) none fun d10 ↦ some d10 else some false
 else some false
 else some false
 else
 bif a2.2.2.2.2.2.2.1 != 0 then some false
 else
 optC (G_ref8_has (a2.1, 1, a2.2.1, a1.1, ())) none fun d7 ↦
 bif d7 then
 optC (G_ref8_has (a2.1, 2, a2.2.2.1, a1.1, ())) none fun d8 ↦
 bif d8 then
 optC (G_ref8_has (a2.1, 3, a2.2.2.2.1, 0, ())) none fun d9 ↦
 bif d9 then optC (G_ref8_has (a2.1, 4, a2.2.2.2.2.1, 0, ())) none fun d10 ↦ some d10 else some false
 else some false
 else some false
 else
 bif a2.1 == 4 then
 bif a2.1 != 1 then
 bif a2.2.2.2.2.2.1 != 0 then some false
 else
 optC (G_ref1_Fits (a2.2.2.2.2.2.1, ())) none fun d4 ↦
 bif !d4 then some false
 else
 optC (G_ref8_in (a2.2.2.2.2.2.2.2.1, (↑(List.length a1.2) : Int), ())) none fun d5 ↦
 bif !d5 then some false
 else
 optC (G_ref8_in (a2.2.2.2.2.2.2.2.2, (↑(List.length a1.2) : Int), ())) none fun d6 ↦
 bif !d6 then some false
 else
 bif a2.1 != 11 then
 bif a2.2.2.2.2.2.2.2.2 != 0 then some false
 else
 bif decide (a2.2.2.2.2.2.2.1 < 1) then some false
 else
 bif decide (a2.2.2.2.2.2.2.1 ≥ 6) then some false
 else
 optC (G_ref8_has (a2.1, 1, a2.2.1, a1.1, ())) none fun d7 ↦
 bif d7 then
 optC (G_ref8_has (a2.1, 2, a2.2.2.1, a1.1, ())) none fun d8 ↦
 bif d8 then
 optC (G_ref8_has (a2.1, 3, a2.2.2.2.1, a1.1, ())) none fun d9 ↦
 bif d9 then optC (G_ref8_has (a2.1, 4, a2.2.2.2.2.1, 0, ())) none fun d10 ↦ some d10 else some false
 else some false
 else some false
 else
 bif decide (a2.2.2.2.2.2.2.1 < 1) then some false
 else
 bif decide (a2.2.2.2.2.2.2.1 ≥ 6) then some false
 else
 optC (G_ref8_has (a2.1, 1, a2.2.1, a1.1, ())) none fun d7 ↦
 bif d7 then
 optC (G_ref8_has (a2.1, 2, a2.2.2.1, a1.1, ())) none fun d8 ↦
 bif d8 then
 optC (G_ref8_has (a2.1, 3, a2.2.2.2.1, a1.1, ())) none fun d9 ↦
 bif d9 then optC (G_ref8_has (a2.1, 4, a2.2.2.2.2.1, 0, ())) none fun d10 ↦ some d10 else some false
 else some false
 else some false
 else
 optC (G_ref1_Fits (a2.2.2.2.2.2.1, ())) none fun d4 ↦
 bif !d4 then some false
 else
 optC (G_ref8_in (a2.2.2.2.2.2.2.2.1, (↑(List.length a1.2) : Int), ())) none fun d5 ↦
 bif !d5 then some false
 else
 optC (G_ref8_in (a2.2.2.2.2.2.2.2.2, (↑(List.length a1.2) : Int), ())) none fun d6 ↦
 bif !d6 then some false
 else
 bif a2.1 != 11 then
 bif a2.2.2.2.2.2.2.2.2 != 0 then some false
 else
 bif decide (a2.2.2.2.2.2.2.1 < 1) then some false
 else
 bif decide (a2.2.2.2.2.2.2.1 ≥ 6) then some false
 else
 optC (G_ref8_has (a2.1, 1, a2.2.1, a1.1, ())) none fun d7 ↦
 bif d7 then
 optC (G_ref8_has (a2.1, 2, a2.2.2.1, a1.1, ())) none fun d8 ↦
 bif d8 then
 optC (G_ref8_has (a2.1, 3, a2.2.2.2.1, a1.1, ())) none fun d9 ↦
 bif d9 then optC (G_ref8_has (a2.1, 4, a2.2.2.2.2.1, 0, ())) none fun d10 ↦ some d10 else some false
 else some false
 else some false
 else
 bif decide (a2.2.2.2.2.2.2.1 < 1) then some false
 else
 bif decide (a2.2.2.2.2.2.2.1 ≥ 6) then some false
 else
 optC (G_ref8_has (a2.1, 1, a2.2.1, a1.1, ())) none fun d7 ↦
 bif d7 then
 optC (G_ref8_has (a2.1, 2, a2.2.2.1, a1.1, ())) none fun d8 ↦
 bif d8 then
 optC (G_ref8_has (a2.1, 3, a2.2.2.2.1, a1.1, ())) none fun d9 ↦
 bif d9 then optC (G_ref8_has (a2.1, 4, a2.2.2.2.2.1, 0, ())) none fun d10 ↦ some d10 else some false
 else some false
 else some false
 else
 bif a2.1 == 5 then
 bif a2.1 != 1 then
 bif a2.2.2.2.2.2.1 != 0 then some false
 else
 optC (G_ref1_Fits (a2.2.2.2.2.2.1, ())) none fun d4 ↦
 bif !d4 then some false
 else
 optC (G_ref8_in (a2.2.2.2.2.2.2.2.1, (↑(List.length a1.2) : Int), ())) none fun d5 ↦
 bif !d5 then some false
 else
 optC (G_ref8_in (a2.2.2.2.2.2.2.2.2, (↑(List.length a1.2) : Int), ())) none fun d6 ↦
 bif !d6 then some false
 else
 bif a2.1 != 11 then
 bif a2.2.2.2.2.2.2.2.2 != 0 then some false
 else
 bif a2.2.2.2.2.2.2.1 != 0 then some false
 else
 optC (G_ref8_has (a2.1, 1, a2.2.1, a1.1, ())) none fun d7 ↦
 bif d7 then
 optC (G_ref8_has (a2.1, 2, a2.2.2.1, 0, ())) none fun d8 ↦
 bif d8 then
 optC (G_ref8_has (a2.1, 3, a2.2.2.2.1, 0, ())) none fun d9 ↦
 bif d9 then optC (G_ref8_has (a2.1, 4, a2.2.2.2.2.1, (↑(List.length a0.1) : Int), ())) none fun d10 ↦ some d10
 else some false
 else some false
 else some false
 else
 bif a2.2.2.2.2.2.2.1 != 0 then some false
 else
 optC (G_ref8_has (a2.1, 1, a2.2.1, a1.1, ())) none fun d7 ↦
 bif d7 then
 optC (G_ref8_has (a2.1, 2, a2.2.2.1, 0, ())) none fun d8 ↦
 bif d8 then
 optC (G_ref8_has (a2.1, 3, a2.2.2.2.1, 0, ())) none fun d9 ↦
 bif d9 then optC (G_ref8_has (a2.1, 4, a2.2.2.2.2.1, (↑(List.length a0.1) : Int), ())) none fun d10 ↦ some d10
 else some false
 else some false
 else some false
 else
 optC (G_ref1_Fits (a2.2.2.2.2.2.1, ())) none fun d4 ↦
 bif !d4 then some false
 else
 optC (G_ref8_in (a2.2.2.2.2.2.2.2.1, (↑(List.length a1.2) : Int), ())) none fun d5 ↦
 bif !d5 then some false
 else
 optC (G_ref8_in (a2.2.2.2.2.2.2.2.2, (↑(List.length a1.2) : Int), ())) none fun d6 ↦
 bif !d6 then some false
 else
 bif a2.1 != 11 then
 bif a2.2.2.2.2.2.2.2.2 != 0 then some false
 else
 bif a2.2.2.2.2.2.2.1 != 0 then some false
 else
 optC (G_ref8_has (a2.1, 1, a2.2.1, a1.1, ())) none fun d7 ↦
 bif d7 then
 optC (G_ref8_has (a2.1, 2, a2.2.2.1, 0, ())) none fun d8 ↦
 bif d8 then
 optC (G_ref8_has (a2.1, 3, a2.2.2.2.1, 0, ())) none fun d9 ↦
 bif d9 then optC (G_ref8_has (a2.1, 4, a2.2.2.2.2.1, (↑(List.length a0.1) : Int), ())) none fun d10 ↦ some d10
 else some false
 else some false
 else some false
 else
 bif a2.2.2.2.2.2.2.1 != 0 then some false
 else
 optC (G_ref8_has (a2.1, 1, a2.2.1, a1.1, ())) none fun d7 ↦
 bif d7 then
 optC (G_ref8_has (a2.1, 2, a2.2.2.1, 0, ())) none fun d8 ↦
 bif d8 then
 optC (G_ref8_has (a2.1, 3, a2.2.2.2.1, 0, ())) none fun d9 ↦
 bif d9 then optC (G_ref8_has (a2.1, 4, a2.2.2.2.2.1, (↑(List.length a0.1) : Int), ())) none fun d10 ↦ some d10
 else some false
 else some false
 else some false
 else
 bif a2.1 == 6 then
 bif a2.1 != 1 then
 bif a2.2.2.2.2.2.1 != 0 then some false
 else
 optC (G_ref1_Fits (a2.2.2.2.2.2.1, ())) none fun d4 ↦
 bif !d4 then some false
 else
 optC (G_ref8_in (a2.2.2.2.2.2.2.2.1, (↑(List.length a1.2) : Int), ())) none fun d5 ↦
 bif !d5 then some false
 else
 optC (G_ref8_in (a2.2.2.2.2.2.2.2.2, (↑(List.length a1.2) : Int), ())) none fun d6 ↦
 bif !d6 then some false
 else
 bif a2.1 != 11 then
 bif a2.2.2.2.2.2.2.2.2 != 0 then some false
 else
 bif a2.2.2.2.2.2.2.1 != 0 then some false
 else
 optC (G_ref8_has (a2.1, 1, a2.2.1, 0, ())) none fun d7 ↦
 bif d7 then
 optC (G_ref8_has (a2.1, 2, a2.2.2.1, a1.1, ())) none fun d8 ↦
 bif d8 then
 optC (G_ref8_has (a2.1, 3, a2.2.2.2.1, 0, ())) none fun d9 ↦
 bif d9 then optC (G_ref8_has (a2.1, 4, a2.2.2.2.2.1, (↑(List.length a0.1) : Int), ())) none fun d10 ↦ some d10
 else some false
 else some false
 else some false
 else
 bif a2.2.2.2.2.2.2.1 != 0 then some false
 else
 optC (G_ref8_has (a2.1, 1, a2.2.1, 0, ())) none fun d7 ↦
 bif d7 then
 optC (G_ref8_has (a2.1, 2, a2.2.2.1, a1.1, ())) none fun d8 ↦
 bif d8 then
 optC (G_ref8_has (a2.1, 3, a2.2.2.2.1, 0, ())) none fun d9 ↦
 bif d9 then optC (G_ref8_has (a2.1, 4, a2.2.2.2.2.1, (↑(List.length a0.1) : Int), ())) none fun d10 ↦ some d10
 else some false
 else some false
 else some false
 else
 optC (G_ref1_Fits (a2.2.2.2.2.2.1, ())) none fun d4 ↦
 bif !d4 then some false
 else
 optC (G_ref8_in (a2.2.2.2.2.2.2.2.1, (↑(List.length a1.2) : Int), ())) none fun d5 ↦
 bif !d5 then some false
 else
 optC (G_ref8_in (a2.2.2.2.2.2.2.2.2, (↑(List.length a1.2) : Int), ())) none fun d6 ↦
 bif !d6 then some false
 else
 bif a2.1 != 11 then
 bif a2.2.2.2.2.2.2.2.2 != 0 then some false
 else
 bif a2.2.2.2.2.2.2.1 != 0 then some false
 else
 optC (G_ref8_has (a2.1, 1, a2.2.1, 0, ())) none fun d7 ↦
 bif d7 then
 optC (G_ref8_has (a2.1, 2, a2.2.2.1, a1.1, ())) none fun d8 ↦
 bif d8 then
 optC (G_ref8_has (a2.1, 3, a2.2.2.2.1, 0, ())) none fun d9 ↦
 bif d9 then optC (G_ref8_has (a2.1, 4, a2.2.2.2.2.1, (↑(List.length a0.1) : Int), ())) none fun d10 ↦ some d10
 else some false
 else some false
 else some false
 else
 bif a2.2.2.2.2.2.2.1 != 0 then some false
 else
 optC (G_ref8_has (a2.1, 1, a2.2.1, 0, ())) none fun d7 ↦
 bif d7 then
 optC (G_ref8_has (a2.1, 2, a2.2.2.1, a1.1, ())) none fun d8 ↦
 bif d8 then
 optC (G_ref8_has (a2.1, 3, a2.2.2.2.1, 0, ())) none fun d9 ↦
 bif d9 then optC (G_ref8_has (a2.1, 4, a2.2.2.2.2.1, (↑(List.length a0.1) : Int), ())) none fun d10 ↦ some d10
 else some false
 else some false
 else some false
 else
 bif a2.1 == 7 then
 bif a2.1 != 1 then
 bif a2.2.2.2.2.2.1 != 0 then some false
 else
 optC (G_ref1_Fits (a2.2.2.2.2.2.1, ())) none fun d4 ↦
 bif !d4 then some false
 else
 optC (G_ref8_in (a2.2.2.2.2.2.2.2.1, (↑(List.length a1.2) : Int), ())) none fun d5 ↦
 bif !d5 then some false
 else
 optC (G_ref8_in (a2.2.2.2.2.2.2.2.2, (↑(List.length a1.2) : Int), ())) none fun d6 ↦
 bif !d6 then some false
 else
 bif a2.1 != 11 then
 bif a2.2.2.2.2.2.2.2.2 != 0 then some false
 else
 bif a2.2.2.2.2.2.2.1 != 0 then some false
 else
 optC (G_ref8_has (a2.1, 1, a2.2.1, a1.1, ())) none fun d7 ↦
 bif d7 then
 optC (G_ref8_has (a2.1, 2, a2.2.2.1, a1.1, ())) none fun d8 ↦
 bif d8 then
 optC (G_ref8_has (a2.1, 3, a2.2.2.2.1, 0, ())) none fun d9 ↦
 bif d9 then optC (G_ref8_has (a2.1, 4, a2.2.2.2.2.1, (↑(List.length a0.2.1) : Int), ())) none fun d10 ↦ some d10
 else some false
 else some false
 else some false
 else
 bif a2.2.2.2.2.2.2.1 != 0 then some false
 else
 optC (G_ref8_has (a2.1, 1, a2.2.1, a1.1, ())) none fun d7 ↦
 bif d7 then
 optC (G_ref8_has (a2.1, 2, a2.2.2.1, a1.1, ())) none fun d8 ↦
 bif d8 then
 optC (G_ref8_has (a2.1, 3, a2.2.2.2.1, 0, ())) none fun d9 ↦
 bif d9 then optC (G_ref8_has (a2.1, 4, a2.2.2.2.2.1, (↑(List.length a0.2.1) : Int), ())) none fun d10 ↦ some d10
 else some false
 else some false
 else some false
 else
 optC (G_ref1_Fits (a2.2.2.2.2.2.1, ())) none fun d4 ↦
 bif !d4 then some false
 else
 optC (G_ref8_in (a2.2.2.2.2.2.2.2.1, (↑(List.length a1.2) : Int), ())) none fun d5 ↦
 bif !d5 then some false
 else
 optC (G_ref8_in (a2.2.2.2.2.2.2.2.2, (↑(List.length a1.2) : Int), ())) none fun d6 ↦
 bif !d6 then some false
 else
 bif a2.1 != 11 then
 bif a2.2.2.2.2.2.2.2.2 != 0 then some false
 else
 bif a2.2.2.2.2.2.2.1 != 0 then some false
 else
 optC (G_ref8_has (a2.1, 1, a2.2.1, a1.1, ())) none fun d7 ↦
 bif d7 then
 optC (G_ref8_has (a2.1, 2, a2.2.2.1, a1.1, ())) none fun d8 ↦
 bif d8 then
 optC (G_ref8_has (a2.1, 3, a2.2.2.2.1, 0, ())) none fun d9 ↦
 bif d9 then optC (G_ref8_has (a2.1, 4, a2.2.2.2.2.1, (↑(List.length a0.2.1) : Int), ())) none fun d10 ↦ some d10
 else some false
 else some false
 else some false
 else
 bif a2.2.2.2.2.2.2.1 != 0 then some false
 else
 optC (G_ref8_has (a2.1, 1, a2.2.1, a1.1, ())) none fun d7 ↦
 bif d7 then
 optC (G_ref8_has (a2.1, 2, a2.2.2.1, a1.1, ())) none fun d8 ↦
 bif d8 then
 optC (G_ref8_has (a2.1, 3, a2.2.2.2.1, 0, ())) none fun d9 ↦
 bif d9 then optC (G_ref8_has (a2.1, 4, a2.2.2.2.2.1, (↑(List.length a0.2.1) : Int), ())) none fun d10 ↦ some d10
 else some false
 else some false
 else some false
 else
 bif a2.1 == 8 then
 bif a2.1 != 1 then
 bif a2.2.2.2.2.2.1 != 0 then some false
 else
 optC (G_ref1_Fits (a2.2.2.2.2.2.1, ())) none fun d4 ↦
 bif !d4 then some false
 else
 optC (G_ref8_in (a2.2.2.2.2.2.2.2.1, (↑(List.length a1.2) : Int), ())) none fun d5 ↦
 bif !d5 then some false
 else
 optC (G_ref8_in (a2.2.2.2.2.2.2.2.2, (↑(List.length a1.2) : Int), ())) none fun d6 ↦
 bif !d6 then some false
 else
 bif a2.1 != 11 then
 bif a2.2.2.2.2.2.2.2.2 != 0 then some false
 else
 bif a2.2.2.2.2.2.2.1 != 0 then some false
 else
 optC (G_ref8_has (a2.1, 1, a2.2.1, 0, ())) none fun d7 ↦
 bif d7 then
 optC (G_ref8_has (a2.1, 2, a2.2.2.1, a1.1, ())) none fun d8 ↦
 bif d8 then
 optC (G_ref8_has (a2.1, 3, a2.2.2.2.1, a1.1, ())) none fun d9 ↦
 bif d9 then
 optC (G_ref8_has (a2.1, 4, a2.2.2.2.2.1, (↑(List.length a0.2.1) : Int), ())) none fun d10 ↦ some d10
 else some false
 else some false
 else some false
 else
 bif a2.2.2.2.2.2.2.1 != 0 then some false
 else
 optC (G_ref8_has (a2.1, 1, a2.2.1, 0, ())) none fun d7 ↦
 bif d7 then
 optC (G_ref8_has (a2.1, 2, a2.2.2.1, a1.1, ())) none fun d8 ↦
 bif d8 then
 optC (G_ref8_has (a2.1, 3, a2.2.2.2.1, a1.1, ())) none fun d9 ↦
 bif d9 then optC (G_ref8_has (a2.1, 4, a2.2.2.2.2.1, (↑(List.length a0.2.1) : Int), ())) none fun d10 ↦ some d10
 else some false
 else some false
 else some false
 else
 optC (G_ref1_Fits (a2.2.2.2.2.2.1, ())) none fun d4 ↦
 bif !d4 then some false
 else
 optC (G_ref8_in (a2.2.2.2.2.2.2.2.1, (↑(List.length a1.2) : Int), ())) none fun d5 ↦
 bif !d5 then some false
 else
 optC (G_ref8_in (a2.2.2.2.2.2.2.2.2, (↑(List.length a1.2) : Int), ())) none fun d6 ↦
 bif !d6 then some false
 else
 bif a2.1 != 11 then
 bif a2.2.2.2.2.2.2.2.2 != 0 then some false
 else
 bif a2.2.2.2.2.2.2.1 != 0 then some false
 else
 optC (G_ref8_has (a2.1, 1, a2.2.1, 0, ())) none fun d7 ↦
 bif d7 then
 optC (G_ref8_has (a2.1, 2, a2.2.2.1, a1.1, ())) none fun d8 ↦
 bif d8 then
 optC (G_ref8_has (a2.1, 3, a2.2.2.2.1, a1.1, ())) none fun d9 ↦
 bif d9 then optC (G_ref8_has (a2.1, 4, a2.2.2.2.2.1, (↑(List.length a0.2.1) : Int), ())) none fun d10 ↦ some d10
 else some false
 else some false
 else some false
 else
 bif a2.2.2.2.2.2.2.1 != 0 then some false
 else
 optC (G_ref8_has (a2.1, 1, a2.2.1, 0, ())) none fun d7 ↦
 bif d7 then
 optC (G_ref8_has (a2.1, 2, a2.2.2.1, a1.1, ())) none fun d8 ↦
 bif d8 then
 optC (G_ref8_has (a2.1, 3, a2.2.2.2.1, a1.1, ())) none fun d9 ↦
 bif d9 then optC (G_ref8_has (a2.1, 4, a2.2.2.2.2.1, (↑(List.length a0.2.1) : Int), ())) none fun d10 ↦ some d10
 else some false
 else some false
 else some false
 else
 bif a2.1 == 9 then
 bif a2.1 != 1 then
 bif a2.2.2.2.2.2.1 != 0 then some false
 else
 optC (G_ref1_Fits (a2.2.2.2.2.2.1, ())) none fun d4 ↦
 bif !d4 then some false
 else
 optC (G_ref8_in (a2.2.2.2.2.2.2.2.1, (↑(List.length a1.2) : Int), ())) none fun d5 ↦
 bif !d5 then some false
 else
 optC (G_ref8_in (a2.2.2.2.2.2.2.2.2, (↑(List.length a1.2) : Int), ())) none fun d6 ↦
 bif !d6 then some false
 else
 bif a2.1 != 11 then
 bif a2.2.2.2.2.2.2.2.2 != 0 then some false
 else
 bif a2.2.2.2.2.2.2.1 != 0 then some false
 else
 optC (G_ref8_has (a2.1, 1, a2.2.1, 0, ())) none fun d7 ↦
 bif d7 then
 optC (G_ref8_has (a2.1, 2, a2.2.2.1, 0, ())) none fun d8 ↦
 bif d8 then
 optC (G_ref8_has (a2.1, 3, a2.2.2.2.1, 0, ())) none fun d9 ↦
 bif d9 then optC (G_ref8_has (a2.1, 4, a2.2.2.2.2.1, a0.2.2.1, ())) none fun d10 ↦ some d10
 else some false
 else some false
 else some false
 else
 bif a2.2.2.2.2.2.2.1 != 0 then some false
 else
 optC (G_ref8_has (a2.1, 1, a2.2.1, 0, ())) none fun d7 ↦
 bif d7 then
 optC (G_ref8_has (a2.1, 2, a2.2.2.1, 0, ())) none fun d8 ↦
 bif d8 then
 optC (G_ref8_has (a2.1, 3, a2.2.2.2.1, 0, ())) none fun d9 ↦
 bif d9 then optC (G_ref8_has (a2.1, 4, a2.2.2.2.2.1, a0.2.2.1, ())) none fun d10 ↦ some d10
 else some false
 else some false
 else some false
 else
 optC (G_ref1_Fits (a2.2.2.2.2.2.1, ())) none fun d4 ↦
 bif !d4 then some false
 else
 optC (G_ref8_in (a2.2.2.2.2.2.2.2.1, (↑(List.length a1.2) : Int), ())) none fun d5 ↦
 bif !d5 then some false
 else
 optC (G_ref8_in (a2.2.2.2.2.2.2.2.2, (↑(List.length a1.2) : Int), ())) none fun d6 ↦
 bif !d6 then some false
 else
 bif a2.1 != 11 then
 bif a2.2.2.2.2.2.2.2.2 != 0 then some false
 else
 bif a2.2.2.2.2.2.2.1 != 0 then some false
 else
 optC (G_ref8_has (a2.1, 1, a2.2.1, 0, ())) none fun d7 ↦
 bif d7 then
 optC (G_ref8_has (a2.1, 2, a2.2.2.1, 0, ())) none fun d8 ↦
 bif d8 then
 optC (G_ref8_has (a2.1, 3, a2.2.2.2.1, 0, ())) none fun d9 ↦
 bif d9 then optC (G_ref8_has (a2.1, 4, a2.2.2.2.2.1, a0.2.2.1, ())) none fun d10 ↦ some d10
 else some false
 else some false
 else some false
 else
 bif a2.2.2.2.2.2.2.1 != 0 then some false
 else
 optC (G_ref8_has (a2.1, 1, a2.2.1, 0, ())) none fun d7 ↦
 bif d7 then
 optC (G_ref8_has (a2.1, 2, a2.2.2.1, 0, ())) none fun d8 ↦
 bif d8 then
 optC (G_ref8_has (a2.1, 3, a2.2.2.2.1, 0, ())) none fun d9 ↦
 bif d9 then optC (G_ref8_has (a2.1, 4, a2.2.2.2.2.1, a0.2.2.1, ())) none fun d10 ↦ some d10
 else some false
 else some false
 else some false
 else
 bif a2.1 == 10 then
 bif a2.1 != 1 then
 bif a2.2.2.2.2.2.1 != 0 then some false
 else
 optC (G_ref1_Fits (a2.2.2.2.2.2.1, ())) none fun d4 ↦
 bif !d4 then some false
 else
 optC (G_ref8_in (a2.2.2.2.2.2.2.2.1, (↑(List.length a1.2) : Int), ())) none fun d5 ↦
 bif !d5 then some false
 else
 optC (G_ref8_in (a2.2.2.2.2.2.2.2.2, (↑(List.length a1.2) : Int), ())) none fun d6 ↦
 bif !d6 then some false
 else
 bif a2.1 != 11 then
 bif a2.2.2.2.2.2.2.2.2 != 0 then some false
 else
 bif a2.2.2.2.2.2.2.1 != 0 then some false
 else
 optC (G_ref8_has (a2.1, 1, a2.2.1, 0, ())) none fun d7 ↦
 bif d7 then
 optC (G_ref8_has (a2.1, 2, a2.2.2.1, 0, ())) none fun d8 ↦
 bif d8 then
 optC (G_ref8_has (a2.1, 3, a2.2.2.2.1, 0, ())) none fun d9 ↦
 bif d9 then optC (G_ref8_has (a2.1, 4, a2.2.2.2.2.1, a0.2.2.1, ())) none fun d10 ↦ some d10
 else some false
 else some false
 else some false
 else
 bif a2.2.2.2.2.2.2.1 != 0 then some false
 else
 optC (G_ref8_has (a2.1, 1, a2.2.1, 0, ())) none fun d7 ↦
 bif d7 then
 optC (G_ref8_has (a2.1, 2, a2.2.2.1, 0, ())) none fun d8 ↦
 bif d8 then
 optC (G_ref8_has (a2.1, 3, a2.2.2.2.1, 0, ())) none fun d9 ↦
 bif d9 then optC (G_ref8_has (a2.1, 4, a2.2.2.2.2.1, a0.2.2.1, ())) none fun d10 ↦ some d10
 else some false
 else some false
 else some false
 else
 optC (G_ref1_Fits (a2.2.2.2.2.2.1, ())) none fun d4 ↦
 bif !d4 then some false
 else
 optC (G_ref8_in (a2.2.2.2.2.2.2.2.1, (↑(List.length a1.2) : Int), ())) none fun d5 ↦
 bif !d5 then some false
 else
 optC (G_ref8_in (a2.2.2.2.2.2.2.2.2, (↑(List.length a1.2) : Int), ())) none fun d6 ↦
 bif !d6 then some false
 else
 bif a2.1 != 11 then
 bif a2.2.2.2.2.2.2.2.2 != 0 then some false
 else
 bif a2.2.2.2.2.2.2.1 != 0 then some false
 else
 optC (G_ref8_has (a2.1, 1, a2.2.1, 0, ())) none fun d7 ↦
 bif d7 then
 optC (G_ref8_has (a2.1, 2, a2.2.2.1, 0, ())) none fun d8 ↦
 bif d8 then
 optC (G_ref8_has (a2.1, 3, a2.2.2.2.1, 0, ())) none fun d9 ↦
 bif d9 then optC (G_ref8_has (a2.1, 4, a2.2.2.2.2.1, a0.2.2.1, ())) none fun d10 ↦ some d10
 else some false
 else some false
 else some false
 else
 bif a2.2.2.2.2.2.2.1 != 0 then some false
 else
 optC (G_ref8_has (a2.1, 1, a2.2.1, 0, ())) none fun d7 ↦
 bif d7 then
 optC (G_ref8_has (a2.1, 2, a2.2.2.1, 0, ())) none fun d8 ↦
 bif d8 then
 optC (G_ref8_has (a2.1, 3, a2.2.2.2.1, 0, ())) none fun d9 ↦
 bif d9 then optC (G_ref8_has (a2.1, 4, a2.2.2.2.2.1, a0.2.2.1, ())) none fun d10 ↦ some d10
 else some false
 else some false
 else some false
 else
 bif a2.1 == 11 then
 bif a2.1 != 1 then
 bif a2.2.2.2.2.2.1 != 0 then some false
 else
 optC (G_ref1_Fits (a2.2.2.2.2.2.1, ())) none fun d4 ↦
 bif !d4 then some false
 else
 optC (G_ref8_in (a2.2.2.2.2.2.2.2.1, (↑(List.length a1.2) : Int), ())) none fun d5 ↦
 bif !d5 then some false
 else
 optC (G_ref8_in (a2.2.2.2.2.2.2.2.2, (↑(List.length a1.2) : Int), ())) none fun d6 ↦
 bif !d6 then some false
 else
 bif a2.1 != 11 then
 bif a2.2.2.2.2.2.2.2.2 != 0 then some false
 else
 bif decide (a2.2.2.2.2.2.2.1 < 1) then some false
 else
 bif decide (a2.2.2.2.2.2.2.1 ≥ 7) then some false
 else
 optC (G_ref8_has (a2.1, 1, a2.2.1, 0, ())) none fun d7 ↦
 bif d7 then
 optC (G_ref8_has (a2.1, 2, a2.2.2.1, a1.1, ())) none fun d8 ↦
 bif d8 then
 optC (G_ref8_has (a2.1, 3, a2.2.2.2.1, a1.1, ())) none fun d9 ↦
 bif d9 then optC (G_ref8_has (a2.1, 4, a2.2.2.2.2.1, 0, ())) none fun d10 ↦ some d10
 else some false
 else some false
 else some false
 else
 bif decide (a2.2.2.2.2.2.2.1 < 1) then some false
 else
 bif decide (a2.2.2.2.2.2.2.1 ≥ 7) then some false
 else
 optC (G_ref8_has (a2.1, 1, a2.2.1, 0, ())) none fun d7 ↦
 bif d7 then
 optC (G_ref8_has (a2.1, 2, a2.2.2.1, a1.1, ())) none fun d8 ↦
 bif d8 then
 optC (G_ref8_has (a2.1, 3, a2.2.2.2.1, a1.1, ())) none fun d9 ↦
 bif d9 then optC (G_ref8_has (a2.1, 4, a2.2.2.2.2.1, 0, ())) none fun d10 ↦ some d10
 else some false
 else some false
 else some false
 else
 optC (G_ref1_Fits (a2.2.2.2.2.2.1, ())) none fun d4 ↦
 bif !d4 then some false
 else
 optC (G_ref8_in (a2.2.2.2.2.2.2.2.1, (↑(List.length a1.2) : Int), ())) none fun d5 ↦
 bif !d5 then some false
 else
 optC (G_ref8_in (a2.2.2.2.2.2.2.2.2, (↑(List.length a1.2) : Int), ())) none fun d6 ↦
 bif !d6 then some false
 else
 bif a2.1 != 11 then
 bif a2.2.2.2.2.2.2.2.2 != 0 then some false
 else
 bif decide (a2.2.2.2.2.2.2.1 < 1) then some false
 else
 bif decide (a2.2.2.2.2.2.2.1 ≥ 7) then some false
 else
 optC (G_ref8_has (a2.1, 1, a2.2.1, 0, ())) none fun d7 ↦
 bif d7 then
 optC (G_ref8_has (a2.1, 2, a2.2.2.1, a1.1, ())) none fun d8 ↦
 bif d8 then
 optC (G_ref8_has (a2.1, 3, a2.2.2.2.1, a1.1, ())) none fun d9 ↦
 bif d9 then optC (G_ref8_has (a2.1, 4, a2.2.2.2.2.1, 0, ())) none fun d10 ↦ some d10
 else some false
 else some false
 else some false
 else
 bif decide (a2.2.2.2.2.2.2.1 < 1) then some false
 else
 bif decide (a2.2.2.2.2.2.2.1 ≥ 7) then some false
 else
 optC (G_ref8_has (a2.1, 1, a2.2.1, 0, ())) none fun d7 ↦
 bif d7 then
 optC (G_ref8_has (a2.1, 2, a2.2.2.1, a1.1, ())) none fun d8 ↦
 bif d8 then
 optC (G_ref8_has (a2.1, 3, a2.2.2.2.1, a1.1, ())) none fun d9 ↦
 bif d9 then optC (G_ref8_has (a2.1, 4, a2.2.2.2.2.1, 0, ())) none fun d10 ↦ some d10
 else some false
 else some false
 else some false
 else
 bif a2.1 == 12 then
 bif a2.1 != 1 then
 bif a2.2.2.2.2.2.1 != 0 then some false
 else
 optC (G_ref1_Fits (a2.2.2.2.2.2.1, ())) none fun d4 ↦
 bif !d4 then some false
 else
 optC (G_ref8_in (a2.2.2.2.2.2.2.2.1, (↑(List.length a1.2) : Int), ())) none fun d5 ↦
 bif !d5 then some false
 else
 optC (G_ref8_in (a2.2.2.2.2.2.2.2.2, (↑(List.length a1.2) : Int), ())) none fun d6 ↦
 bif !d6 then some false
 else
 bif a2.1 != 11 then
 bif a2.2.2.2.2.2.2.2.2 != 0 then some false
 else
 bif a2.2.2.2.2.2.2.1 != 0 then some false
 else
 optC (G_ref8_has (a2.1, 1, a2.2.1, 0, ())) none fun d7 ↦
 bif d7 then
 optC (G_ref8_has (a2.1, 2, a2.2.2.1, 0, ())) none fun d8 ↦
 bif d8 then
 optC (G_ref8_has (a2.1, 3, a2.2.2.2.1, 0, ())) none fun d9 ↦
 bif d9 then optC (G_ref8_has (a2.1, 4, a2.2.2.2.2.1, 0, ())) none fun d10 ↦ some d10
 else some false
 else some false
 else some false
 else
 bif a2.2.2.2.2.2.2.1 != 0 then some false
 else
 optC (G_ref8_has (a2.1, 1, a2.2.1, 0, ())) none fun d7 ↦
 bif d7 then
 optC (G_ref8_has (a2.1, 2, a2.2.2.1, 0, ())) none fun d8 ↦
 bif d8 then
 optC (G_ref8_has (a2.1, 3, a2.2.2.2.1, 0, ())) none fun d9 ↦
 bif d9 then optC (G_ref8_has (a2.1, 4, a2.2.2.2.2.1, 0, ())) none fun d10 ↦ some d10
 else some false
 else some false
 else some false
 else
 optC (G_ref1_Fits (a2.2.2.2.2.2.1, ())) none fun d4 ↦
 bif !d4 then some false
 else
 optC (G_ref8_in (a2.2.2.2.2.2.2.2.1, (↑(List.length a1.2) : Int), ())) none fun d5 ↦
 bif !d5 then some false
 else
 optC (G_ref8_in (a2.2.2.2.2.2.2.2.2, (↑(List.length a1.2) : Int), ())) none fun d6 ↦
 bif !d6 then some false
 else
 bif a2.1 != 11 then
 bif a2.2.2.2.2.2.2.2.2 != 0 then some false
 else
 bif a2.2.2.2.2.2.2.1 != 0 then some false
 else
 optC (G_ref8_has (a2.1, 1, a2.2.1, 0, ())) none fun d7 ↦
 bif d7 then
 optC (G_ref8_has (a2.1, 2, a2.2.2.1, 0, ())) none fun d8 ↦
 bif d8 then
 optC (G_ref8_has (a2.1, 3, a2.2.2.2.1, 0, ())) none fun d9 ↦
 bif d9 then optC (G_ref8_has (a2.1, 4, a2.2.2.2.2.1, 0, ())) none fun d10 ↦ some d10
 else some false
 else some false
 else some false
 else
 bif a2.2.2.2.2.2.2.1 != 0 then some false
 else
 optC (G_ref8_has (a2.1, 1, a2.2.1, 0, ())) none fun d7 ↦
 bif d7 then
 optC (G_ref8_has (a2.1, 2, a2.2.2.1, 0, ())) none fun d8 ↦
 bif d8 then
 optC (G_ref8_has (a2.1, 3, a2.2.2.2.1, 0, ())) none fun d9 ↦
 bif d9 then optC (G_ref8_has (a2.1, 4, a2.2.2.2.2.1, 0, ())) none fun d10 ↦ some d10
 else some false
 else some false
 else some false
 else
 bif a2.1 == 13 then
 bif a2.1 != 1 then
 bif a2.2.2.2.2.2.1 != 0 then some false
 else
 optC (G_ref1_Fits (a2.2.2.2.2.2.1, ())) none fun d4 ↦
 bif !d4 then some false
 else
 optC (G_ref8_in (a2.2.2.2.2.2.2.2.1, (↑(List.length a1.2) : Int), ())) none fun d5 ↦
 bif !d5 then some false
 else
 optC (G_ref8_in (a2.2.2.2.2.2.2.2.2, (↑(List.length a1.2) : Int), ())) none fun d6 ↦
 bif !d6 then some false
 else
 bif a2.1 != 11 then
 bif a2.2.2.2.2.2.2.2.2 != 0 then some false
 else
 bif a2.2.2.2.2.2.2.1 != 0 then some false
 else
 optC (G_ref8_has (a2.1, 1, a2.2.1, 0, ())) none fun d7 ↦
 bif d7 then
 optC (G_ref8_has (a2.1, 2, a2.2.2.1, 0, ())) none fun d8 ↦
 bif d8 then
 optC (G_ref8_has (a2.1, 3, a2.2.2.2.1, 0, ())) none fun d9 ↦
 bif d9 then optC (G_ref8_has (a2.1, 4, a2.2.2.2.2.1, 0, ())) none fun d10 ↦ some d10
 else some false
 else some false
 else some false
 else
 bif a2.2.2.2.2.2.2.1 != 0 then some false
 else
 optC (G_ref8_has (a2.1, 1, a2.2.1, 0, ())) none fun d7 ↦
 bif d7 then
 optC (G_ref8_has (a2.1, 2, a2.2.2.1, 0, ())) none fun d8 ↦
 bif d8 then
 optC (G_ref8_has (a2.1, 3, a2.2.2.2.1, 0, ())) none fun d9 ↦
 bif d9 then optC (G_ref8_has (a2.1, 4, a2.2.2.2.2.1, 0, ())) none fun d10 ↦ some d10
 else some false
 else some false
 else some false
 else
 optC (G_ref1_Fits (a2.2.2.2.2.2.1, ())) none fun d4 ↦
 bif !d4 then some false
 else
 optC (G_ref8_in (a2.2.2.2.2.2.2.2.1, (↑(List.length a1.2) : Int), ())) none fun d5 ↦
 bif !d5 then some false
 else
 optC (G_ref8_in (a2.2.2.2.2.2.2.2.2, (↑(List.length a1.2) : Int), ())) none fun d6 ↦
 bif !d6 then some false
 else
 bif a2.1 != 11 then
 bif a2.2.2.2.2.2.2.2.2 != 0 then some false
 else
 bif a2.2.2.2.2.2.2.1 != 0 then some false
 else
 optC (G_ref8_has (a2.1, 1, a2.2.1, 0, ())) none fun d7 ↦
 bif d7 then
 optC (G_ref8_has (a2.1, 2, a2.2.2.1, 0, ())) none fun d8 ↦
 bif d8 then
 optC (G_ref8_has (a2.1, 3, a2.2.2.2.1, 0, ())) none fun d9 ↦
 bif d9 then optC (G_ref8_has (a2.1, 4, a2.2.2.2.2.1, 0, ())) none fun d10 ↦ some d10
 else some false
 else some false
 else some false
 else
 bif a2.2.2.2.2.2.2.1 != 0 then some false
 else
 optC (G_ref8_has (a2.1, 1, a2.2.1, 0, ())) none fun d7 ↦
 bif d7 then
 optC (G_ref8_has (a2.1, 2, a2.2.2.1, 0, ())) none fun d8 ↦
 bif d8 then
 optC (G_ref8_has (a2.1, 3, a2.2.2.2.1, 0, ())) none fun d9 ↦
 bif d9 then optC (G_ref8_has (a2.1, 4, a2.2.2.2.2.1, 0, ())) none fun d10 ↦ some d10
 else some false
 else some false
 else some false
 else
 bif a2.1 == 14 then
 bif a2.1 != 1 then
 bif a2.2.2.2.2.2.1 != 0 then some false
 else
 optC (G_ref1_Fits (a2.2.2.2.2.2.1, ())) none fun d4 ↦
 bif !d4 then some false
 else
 optC (G_ref8_in (a2.2.2.2.2.2.2.2.1, (↑(List.length a1.2) : Int), ())) none fun d5 ↦
 bif !d5 then some false
 else
 optC (G_ref8_in (a2.2.2.2.2.2.2.2.2, (↑(List.length a1.2) : Int), ())) none fun d6 ↦
 bif !d6 then some false
 else
 bif a2.1 != 11 then
 bif a2.2.2.2.2.2.2.2.2 != 0 then some false
 else
 bif a2.2.2.2.2.2.2.1 != 0 then some false
 else
 optC (G_ref8_has (a2.1, 1, a2.2.1, 0, ())) none fun d7 ↦
 bif d7 then
 optC (G_ref8_has (a2.1, 2, a2.2.2.1, 0, ())) none fun d8 ↦
 bif d8 then
 optC (G_ref8_has (a2.1, 3, a2.2.2.2.1, 0, ())) none fun d9 ↦
 bif d9 then optC (G_ref8_has (a2.1, 4, a2.2.2.2.2.1, 0, ())) none fun d10 ↦ some d10
 else some false
 else some false
 else some false
 else
 bif a2.2.2.2.2.2.2.1 != 0 then some false
 else
 optC (G_ref8_has (a2.1, 1, a2.2.1, 0, ())) none fun d7 ↦
 bif d7 then
 optC (G_ref8_has (a2.1, 2, a2.2.2.1, 0, ())) none fun d8 ↦
 bif d8 then
 optC (G_ref8_has (a2.1, 3, a2.2.2.2.1, 0, ())) none fun d9 ↦
 bif d9 then optC (G_ref8_has (a2.1, 4, a2.2.2.2.2.1, 0, ())) none fun d10 ↦ some d10
 else some false
 else some false
 else some false
 else
 optC (G_ref1_Fits (a2.2.2.2.2.2.1, ())) none fun d4 ↦
 bif !d4 then some false
 else
 optC (G_ref8_in (a2.2.2.2.2.2.2.2.1, (↑(List.length a1.2) : Int), ())) none fun d5 ↦
 bif !d5 then some false
 else
 optC (G_ref8_in (a2.2.2.2.2.2.2.2.2, (↑(List.length a1.2) : Int), ())) none fun d6 ↦
 bif !d6 then some false
 else
 bif a2.1 != 11 then
 bif a2.2.2.2.2.2.2.2.2 != 0 then some false
 else
 bif a2.2.2.2.2.2.2.1 != 0 then some false
 else
 optC (G_ref8_has (a2.1, 1, a2.2.1, 0, ())) none fun d7 ↦
 bif d7 then
 optC (G_ref8_has (a2.1, 2, a2.2.2.1, 0, ())) none fun d8 ↦
 bif d8 then
 optC (G_ref8_has (a2.1, 3, a2.2.2.2.1, 0, ())) none fun d9 ↦
 bif d9 then optC (G_ref8_has (a2.1, 4, a2.2.2.2.2.1, 0, ())) none fun d10 ↦ some d10
 else some false
 else some false
 else some false
 else
 bif a2.2.2.2.2.2.2.1 != 0 then some false
 else
 optC (G_ref8_has (a2.1, 1, a2.2.1, 0, ())) none fun d7 ↦
 bif d7 then
 optC (G_ref8_has (a2.1, 2, a2.2.2.1, 0, ())) none fun d8 ↦
 bif d8 then
 optC (G_ref8_has (a2.1, 3, a2.2.2.2.1, 0, ())) none fun d9 ↦
 bif d9 then optC (G_ref8_has (a2.1, 4, a2.2.2.2.2.1, 0, ())) none fun d10 ↦ some d10
 else some false
 else some false
 else some false
 else some false
theorem raw_ref8_act (a0 : U) (a1 : C) (a2 : A) : evGX (cxU sp_ref8_act [] 40 1048576) keeps 8 64 ash_ref8_act (.dat .bool) ((a0, a1, a2, ()) : (U × (C × (A × Unit)))) = g_ref8_act a0 a1 a2 := by kernel_rfl
noncomputable def G_ref8_act (x : (U × (C × (A × Unit)))) : Option Bool := g_ref8_act x.1 x.2.1 x.2.2.1
noncomputable def con_ref8_act : List AV → Prog AV := conP true ash_ref8_act (.dat .bool) G_ref8_act
theorem snd_ref8_act : SoundA Tryz.prog 64 con_ref8_act := conP_sound (calU sp_ref8_act [] 40 1048576 8 64) true (by rfl) (by rfl) (fun x r e => (evGX_eq _ _ _ _ _ _ _).trans ((raw_ref8_act x.1 x.2.1 x.2.2.1).trans e)) (.inl rfl)
end Go.Proofs.YtmjbedjnojcmfaaGreatDoor.Ex

namespace Go.Proofs.YtmjbedjnojcmfaaGreatDoor.Ex
open Go.Proofs Go.Proofs.YtmjbedjnojcmfaaGreatDoor
set_option maxRecDepth 100000
set_option maxHeartbeats 2000000
set_option linter.unusedVariables false
set_option linter.unusedSimpArgs false
abbrev ty_58_0 : Type := (Int × Int × Int × (List Int) × (List Int) × Int × (List C) × Int × (List A))
def ash_ref8_Is : List Sh := [.dat tU]
def kp_ref8_Is_27_0 : Nat → List Nat := fun c => bif c.beq 0 then [1, 3] else [1, 2]
def kp_ref8_Is_27_2 : Nat → List Nat := fun c => bif c.beq 0 then [1, 4] else [1, 2]
def kp_ref8_Is_27_6 : Nat → List Nat := fun c => bif c.beq 0 then [1, 5, 6, 7, 8] else [1, 2, 5]
def kp_ref8_Is_27_4 : Nat → List Nat := fun c => bif c.beq 0 then [1, 5] else [2]
noncomputable def sp_ref8_Is : List Con := [⟨62, con_ref8_in, snd_ref8_in⟩, ⟨63, con_ref1_Fits, snd_ref1_Fits⟩, ⟨64, con_ref8_act, snd_ref8_act⟩]
def s_ref8_Is_27_0_0 : StS := ⟨[(1, .ptr 0 0), (3, .int .i64)], [(0, .box [.sl (.int .i64), .sl (.int .i64), .int .i64, .sl tC])], 1⟩
def x_ref8_Is_27_0_0_0 : StS := ⟨[(1, .ptr 0 0), (2, .undef)], [(0, .box [.sl (.int .i64), .sl (.int .i64), .int .i64, .sl tC])], 1⟩
def x_ref8_Is_27_0_0_1 : StS := ⟨[(1, .ptr 0 0), (2, .bool)], [(0, .box [.sl (.int .i64), .sl (.int .i64), .int .i64, .sl tC])], 1⟩
abbrev X_ref8_Is_27_0_0 := (Int × (List Int) × (List Int) × Int × (List C))
def fl_ref8_Is_27_0_0 (d : StD s_ref8_Is_27_0_0) : X_ref8_Is_27_0_0 := (d.1.2.1, d.2.1.1, d.2.1.2.1, d.2.1.2.2.1, d.2.1.2.2.2.1)
def un_ref8_Is_27_0_0 (x : X_ref8_Is_27_0_0) : StD s_ref8_Is_27_0_0 := (((), x.1, ()), ((x.2.1, x.2.2.1, x.2.2.2.1, x.2.2.2.2, ()), ()))
abbrev X_ref8_Is_27_0_0_0 := ((List Int) × (List Int) × Int × (List C))
def fl_ref8_Is_27_0_0_0 (d : StD x_ref8_Is_27_0_0_0) : X_ref8_Is_27_0_0_0 := (d.2.1.1, d.2.1.2.1, d.2.1.2.2.1, d.2.1.2.2.2.1)
def un_ref8_Is_27_0_0_0 (x : X_ref8_Is_27_0_0_0) : StD x_ref8_Is_27_0_0_0 := (((), (), ()), ((x.1, x.2.1, x.2.2.1, x.2.2.2, ()), ()))
abbrev X_ref8_Is_27_0_0_1 := (Bool × (List Int) × (List Int) × Int × (List C))
def fl_ref8_Is_27_0_0_1 (d : StD x_ref8_Is_27_0_0_1) : X_ref8_Is_27_0_0_1 := (d.1.2.1, d.2.1.1, d.2.1.2.1, d.2.1.2.2.1, d.2.1.2.2.2.1)
def un_ref8_Is_27_0_0_1 (x : X_ref8_Is_27_0_0_1) : StD x_ref8_Is_27_0_0_1 := (((), x.1, ()), ((x.2.1, x.2.2.1, x.2.2.2.1, x.2.2.2.2, ()), ()))
noncomputable def st_ref8_Is_27_0_0 (s3 : Int) (b0 : (List Int)) (b0_1 : (List Int)) (b0_2 : Int) (b0_3 : (List C)) : Option ((Int × (List Int) × (List Int) × Int × (List C)) ⊕ (((List Int) × (List Int) × Int × (List C)) ⊕ (Bool × (List Int) × (List Int) × Int × (List C)))) :=
  bif decide (s3 < (↑b0.length : Int)) then
 bif decide (0 ≤ s3) then
 optC b0[s3.toNat]? none fun d10 ↦
 optC (G_ref1_Fits (d10, ())) none fun d11 ↦
 bif !d11 then some (Sum.inr (Sum.inr (false, b0, b0_1, b0_2, b0_3))) else some (Sum.inl (Go.IntKind.i64.wrap (s3 + 1), b0, b0_1, b0_2, b0_3))
 else none
 else some (Sum.inr (Sum.inl (b0, b0_1, b0_2, b0_3)))
noncomputable def sx_ref8_Is_27_0_0 (x : X_ref8_Is_27_0_0) : Option (X_ref8_Is_27_0_0 ⊕ (X_ref8_Is_27_0_0_0 ⊕ X_ref8_Is_27_0_0_1)) := st_ref8_Is_27_0_0 x.1 x.2.1 x.2.2.1 x.2.2.2.1 x.2.2.2.2
theorem rn_ref8_Is_27_0_0 (x : X_ref8_Is_27_0_0) : rdX (cxU sp_ref8_Is [] 40 1048576) keeps 8 ⟨27, 123, keeps 27, 0⟩ 0 (bodyX 27 0) 0 kp_ref8_Is_27_0 (sT s_ref8_Is_27_0_0 (un_ref8_Is_27_0_0 x)) (sH s_ref8_Is_27_0_0 (un_ref8_Is_27_0_0 x)) (rdO (fun T h => (rdS s_ref8_Is_27_0_0 T h).map fl_ref8_Is_27_0_0) (getOr (getE 2 x_ref8_Is_27_0_0_0 fl_ref8_Is_27_0_0_0) (getE 1 x_ref8_Is_27_0_0_1 fl_ref8_Is_27_0_0_1))) = sx_ref8_Is_27_0_0 x := by kernel_rfl
noncomputable def L_ref8_Is_27_0_0 (x : X_ref8_Is_27_0_0) : Option (X_ref8_Is_27_0_0_0 ⊕ X_ref8_Is_27_0_0_1) := iterO (fun x => st_ref8_Is_27_0_0 x.1 x.2.1 x.2.2.1 x.2.2.2.1 x.2.2.2.2) FUEL x
noncomputable def q_ref8_Is_27_0 : Nat → Tm → Prog (Nat × Tm) := (varP 0 (fun T h => (rdS s_ref8_Is_27_0_0 T h).map fl_ref8_Is_27_0_0) L_ref8_Is_27_0_0 (fun y => .alt y (altE 2 x_ref8_Is_27_0_0_0 un_ref8_Is_27_0_0_0) (altE 1 x_ref8_Is_27_0_0_1 un_ref8_Is_27_0_0_1)) (fun _ _ => .fail))
noncomputable def lc_ref8_Is_27_0 : Lpc := ⟨27, 0, 123, (fun base T => .norm base (kp_ref8_Is_27_0 0) T (q_ref8_Is_27_0 base)), by kernel_rfl, by kernel_rfl, (loopU sp_ref8_Is [] 40 1048576 8 (keep := kp_ref8_Is_27_0) (q := q_ref8_Is_27_0) (by kernel_rfl) (varX_ok (s := s_ref8_Is_27_0_0) (un := un_ref8_Is_27_0_0) (by rfl) (fun _ => rfl) (getOr_ok (getE_ok (s := x_ref8_Is_27_0_0_0) (un := un_ref8_Is_27_0_0_0) (by rfl) (fun _ => rfl)) (getE_ok (s := x_ref8_Is_27_0_0_1) (un := un_ref8_Is_27_0_0_1) (by rfl) (fun _ => rfl))) (step := sx_ref8_Is_27_0_0) rn_ref8_Is_27_0_0 (fun _ _ e => ⟨_, e⟩) (altOr_ok (altE_ok 2 x_ref8_Is_27_0_0_0 un_ref8_Is_27_0_0_0) (altE_ok 1 x_ref8_Is_27_0_0_1 un_ref8_Is_27_0_0_1)) (VarOk.fail _ _)))⟩
noncomputable abbrev cx_ref8_Is_27_2 := cxU sp_ref8_Is [lc_ref8_Is_27_0] 40 1048576
def s_ref8_Is_27_2_0 : StS := ⟨[(1, .ptr 0 0), (4, .int .i64)], [(0, .box [.sl (.int .i64), .sl (.int .i64), .int .i64, .sl tC])], 1⟩
def x_ref8_Is_27_2_0_0 : StS := ⟨[(1, .ptr 0 0), (2, .undef)], [(0, .box [.sl (.int .i64), .sl (.int .i64), .int .i64, .sl tC])], 1⟩
def x_ref8_Is_27_2_0_1 : StS := ⟨[(1, .ptr 0 0), (2, .bool)], [(0, .box [.sl (.int .i64), .sl (.int .i64), .int .i64, .sl tC])], 1⟩
abbrev X_ref8_Is_27_2_0 := (Int × (List Int) × (List Int) × Int × (List C))
def fl_ref8_Is_27_2_0 (d : StD s_ref8_Is_27_2_0) : X_ref8_Is_27_2_0 := (d.1.2.1, d.2.1.1, d.2.1.2.1, d.2.1.2.2.1, d.2.1.2.2.2.1)
def un_ref8_Is_27_2_0 (x : X_ref8_Is_27_2_0) : StD s_ref8_Is_27_2_0 := (((), x.1, ()), ((x.2.1, x.2.2.1, x.2.2.2.1, x.2.2.2.2, ()), ()))
abbrev X_ref8_Is_27_2_0_0 := ((List Int) × (List Int) × Int × (List C))
def fl_ref8_Is_27_2_0_0 (d : StD x_ref8_Is_27_2_0_0) : X_ref8_Is_27_2_0_0 := (d.2.1.1, d.2.1.2.1, d.2.1.2.2.1, d.2.1.2.2.2.1)
def un_ref8_Is_27_2_0_0 (x : X_ref8_Is_27_2_0_0) : StD x_ref8_Is_27_2_0_0 := (((), (), ()), ((x.1, x.2.1, x.2.2.1, x.2.2.2, ()), ()))
abbrev X_ref8_Is_27_2_0_1 := (Bool × (List Int) × (List Int) × Int × (List C))
def fl_ref8_Is_27_2_0_1 (d : StD x_ref8_Is_27_2_0_1) : X_ref8_Is_27_2_0_1 := (d.1.2.1, d.2.1.1, d.2.1.2.1, d.2.1.2.2.1, d.2.1.2.2.2.1)
def un_ref8_Is_27_2_0_1 (x : X_ref8_Is_27_2_0_1) : StD x_ref8_Is_27_2_0_1 := (((), x.1, ()), ((x.2.1, x.2.2.1, x.2.2.2.1, x.2.2.2.2, ()), ()))
noncomputable def st_ref8_Is_27_2_0 (s4 : Int) (b0 : (List Int)) (b0_1 : (List Int)) (b0_2 : Int) (b0_3 : (List C)) : Option ((Int × (List Int) × (List Int) × Int × (List C)) ⊕ (((List Int) × (List Int) × Int × (List C)) ⊕ (Bool × (List Int) × (List Int) × Int × (List C)))) :=
  bif decide (s4 < (↑b0_1.length : Int)) then
 bif decide (0 ≤ s4) then
 optC b0_1[s4.toNat]? none fun d10 ↦
 bif decide (d10 < 1) then some (Sum.inr (Sum.inr (false, b0, b0_1, b0_2, b0_3)))
 else
 bif decide (0 ≤ s4) then
 optC b0_1[s4.toNat]? none fun d11 ↦
 bif decide (d11 > 16) then some (Sum.inr (Sum.inr (false, b0, b0_1, b0_2, b0_3))) else some (Sum.inl (Go.IntKind.i64.wrap (s4 + 1), b0, b0_1, b0_2, b0_3))
 else none
 else none
 else some (Sum.inr (Sum.inl (b0, b0_1, b0_2, b0_3)))
noncomputable def sx_ref8_Is_27_2_0 (x : X_ref8_Is_27_2_0) : Option (X_ref8_Is_27_2_0 ⊕ (X_ref8_Is_27_2_0_0 ⊕ X_ref8_Is_27_2_0_1)) := st_ref8_Is_27_2_0 x.1 x.2.1 x.2.2.1 x.2.2.2.1 x.2.2.2.2
theorem rn_ref8_Is_27_2_0 (x : X_ref8_Is_27_2_0) : rdX cx_ref8_Is_27_2 keeps 8 ⟨27, 123, keeps 27, 0⟩ 2 (bodyX 27 2) 0 kp_ref8_Is_27_2 (sT s_ref8_Is_27_2_0 (un_ref8_Is_27_2_0 x)) (sH s_ref8_Is_27_2_0 (un_ref8_Is_27_2_0 x)) (rdO (fun T h => (rdS s_ref8_Is_27_2_0 T h).map fl_ref8_Is_27_2_0) (getOr (getE 4 x_ref8_Is_27_2_0_0 fl_ref8_Is_27_2_0_0) (getE 1 x_ref8_Is_27_2_0_1 fl_ref8_Is_27_2_0_1))) = sx_ref8_Is_27_2_0 x := by kernel_rfl
noncomputable def L_ref8_Is_27_2_0 (x : X_ref8_Is_27_2_0) : Option (X_ref8_Is_27_2_0_0 ⊕ X_ref8_Is_27_2_0_1) := iterO (fun x => st_ref8_Is_27_2_0 x.1 x.2.1 x.2.2.1 x.2.2.2.1 x.2.2.2.2) FUEL x
noncomputable def q_ref8_Is_27_2 : Nat → Tm → Prog (Nat × Tm) := (varP 0 (fun T h => (rdS s_ref8_Is_27_2_0 T h).map fl_ref8_Is_27_2_0) L_ref8_Is_27_2_0 (fun y => .alt y (altE 4 x_ref8_Is_27_2_0_0 un_ref8_Is_27_2_0_0) (altE 1 x_ref8_Is_27_2_0_1 un_ref8_Is_27_2_0_1)) (fun _ _ => .fail))
noncomputable def lc_ref8_Is_27_2 : Lpc := ⟨27, 2, 123, (fun base T => .norm base (kp_ref8_Is_27_2 0) T (q_ref8_Is_27_2 base)), by kernel_rfl, by kernel_rfl, (loopU sp_ref8_Is [lc_ref8_Is_27_0] 40 1048576 8 (keep := kp_ref8_Is_27_2) (q := q_ref8_Is_27_2) (by kernel_rfl) (varX_ok (s := s_ref8_Is_27_2_0) (un := un_ref8_Is_27_2_0) (by rfl) (fun _ => rfl) (getOr_ok (getE_ok (s := x_ref8_Is_27_2_0_0) (un := un_ref8_Is_27_2_0_0) (by rfl) (fun _ => rfl)) (getE_ok (s := x_ref8_Is_27_2_0_1) (un := un_ref8_Is_27_2_0_1) (by rfl) (fun _ => rfl))) (step := sx_ref8_Is_27_2_0) rn_ref8_Is_27_2_0 (fun _ _ e => ⟨_, e⟩) (altOr_ok (altE_ok 4 x_ref8_Is_27_2_0_0 un_ref8_Is_27_2_0_0) (altE_ok 1 x_ref8_Is_27_2_0_1 un_ref8_Is_27_2_0_1)) (VarOk.fail _ _)))⟩
noncomputable abbrev cx_ref8_Is_27_6 := cxU sp_ref8_Is [lc_ref8_Is_27_0, lc_ref8_Is_27_2] 40 1048576
def s_ref8_Is_27_6_0 : StS := ⟨[(1, .ptr 0 0), (5, .int .i64), (6, .ptr 1 0), (7, .int .i64), (8, .int .i64)], [(0, .box [.sl (.int .i64), .sl (.int .i64), .int .i64, .sl tC]), (1, .box [.int .i64, .sl tA])], 2⟩
def x_ref8_Is_27_6_0_0 : StS := ⟨[(1, .ptr 0 0), (2, .undef), (5, .int .i64)], [(0, .box [.sl (.int .i64), .sl (.int .i64), .int .i64, .sl tC])], 1⟩
def x_ref8_Is_27_6_0_1 : StS := ⟨[(1, .ptr 0 0), (2, .bool), (5, .int .i64)], [(0, .box [.sl (.int .i64), .sl (.int .i64), .int .i64, .sl tC])], 1⟩
abbrev X_ref8_Is_27_6_0 := ty_58_0
def fl_ref8_Is_27_6_0 (d : StD s_ref8_Is_27_6_0) : X_ref8_Is_27_6_0 := (d.1.2.1, d.1.2.2.2.1, d.1.2.2.2.2.1, d.2.1.1, d.2.1.2.1, d.2.1.2.2.1, d.2.1.2.2.2.1, d.2.2.1.1, d.2.2.1.2.1)
def un_ref8_Is_27_6_0 (x : X_ref8_Is_27_6_0) : StD s_ref8_Is_27_6_0 := (((), x.1, (), x.2.1, x.2.2.1, ()), ((x.2.2.2.1, x.2.2.2.2.1, x.2.2.2.2.2.1, x.2.2.2.2.2.2.1, ()), (x.2.2.2.2.2.2.2.1, x.2.2.2.2.2.2.2.2, ()), ()))
abbrev X_ref8_Is_27_6_0_0 := (Int × (List Int) × (List Int) × Int × (List C))
def fl_ref8_Is_27_6_0_0 (d : StD x_ref8_Is_27_6_0_0) : X_ref8_Is_27_6_0_0 := (d.1.2.2.1, d.2.1.1, d.2.1.2.1, d.2.1.2.2.1, d.2.1.2.2.2.1)
def un_ref8_Is_27_6_0_0 (x : X_ref8_Is_27_6_0_0) : StD x_ref8_Is_27_6_0_0 := (((), (), x.1, ()), ((x.2.1, x.2.2.1, x.2.2.2.1, x.2.2.2.2, ()), ()))
abbrev X_ref8_Is_27_6_0_1 := (Bool × Int × (List Int) × (List Int) × Int × (List C))
def fl_ref8_Is_27_6_0_1 (d : StD x_ref8_Is_27_6_0_1) : X_ref8_Is_27_6_0_1 := (d.1.2.1, d.1.2.2.1, d.2.1.1, d.2.1.2.1, d.2.1.2.2.1, d.2.1.2.2.2.1)
def un_ref8_Is_27_6_0_1 (x : X_ref8_Is_27_6_0_1) : StD x_ref8_Is_27_6_0_1 := (((), x.1, x.2.1, ()), ((x.2.2.1, x.2.2.2.1, x.2.2.2.2.1, x.2.2.2.2.2, ()), ()))
noncomputable def st_ref8_Is_27_6_0 (s5 : Int) (s7 : Int) (s8 : Int) (b0 : (List Int)) (b0_1 : (List Int)) (b0_2 : Int) (b0_3 : (List C)) (b1 : Int) (b1_1 : (List A)) : Option (ty_58_0 ⊕ ((Int × (List Int) × (List Int) × Int × (List C)) ⊕ (Bool × Int × (List Int) × (List Int) × Int × (List C)))) :=
  bif decide (s8 < s7) then
 bif decide (0 ≤ s8) then
 optC b1_1[s8.toNat]? none fun d14 ↦
 optC (G_ref8_act ((b0, b0_1, b0_2, b0_3), (b1, b1_1), d14, ())) none fun d15 ↦
 bif !d15 then some (Sum.inr (Sum.inr (false, s5, b0, b0_1, b0_2, b0_3))) else some (Sum.inl (s5, s7, Go.IntKind.i64.wrap (s8 + 1), b0, b0_1, b0_2, b0_3, b1, b1_1))
 else none
 else some (Sum.inr (Sum.inl (s5, b0, b0_1, b0_2, b0_3)))
noncomputable def sx_ref8_Is_27_6_0 (x : X_ref8_Is_27_6_0) : Option (X_ref8_Is_27_6_0 ⊕ (X_ref8_Is_27_6_0_0 ⊕ X_ref8_Is_27_6_0_1)) := st_ref8_Is_27_6_0 x.1 x.2.1 x.2.2.1 x.2.2.2.1 x.2.2.2.2.1 x.2.2.2.2.2.1 x.2.2.2.2.2.2.1 x.2.2.2.2.2.2.2.1 x.2.2.2.2.2.2.2.2
theorem rn_ref8_Is_27_6_0 (x : X_ref8_Is_27_6_0) : rdX cx_ref8_Is_27_6 keeps 8 ⟨27, 123, keeps 27, 0⟩ 6 (bodyX 27 6) 0 kp_ref8_Is_27_6 (sT s_ref8_Is_27_6_0 (un_ref8_Is_27_6_0 x)) (sH s_ref8_Is_27_6_0 (un_ref8_Is_27_6_0 x)) (rdO (fun T h => (rdS s_ref8_Is_27_6_0 T h).map fl_ref8_Is_27_6_0) (getOr (getE 8 x_ref8_Is_27_6_0_0 fl_ref8_Is_27_6_0_0) (getE 1 x_ref8_Is_27_6_0_1 fl_ref8_Is_27_6_0_1))) = sx_ref8_Is_27_6_0 x := by kernel_rfl
noncomputable def L_ref8_Is_27_6_0 (x : X_ref8_Is_27_6_0) : Option (X_ref8_Is_27_6_0_0 ⊕ X_ref8_Is_27_6_0_1) := iterO (fun x => st_ref8_Is_27_6_0 x.1 x.2.1 x.2.2.1 x.2.2.2.1 x.2.2.2.2.1 x.2.2.2.2.2.1 x.2.2.2.2.2.2.1 x.2.2.2.2.2.2.2.1 x.2.2.2.2.2.2.2.2) FUEL x
noncomputable def q_ref8_Is_27_6 : Nat → Tm → Prog (Nat × Tm) := (varP 0 (fun T h => (rdS s_ref8_Is_27_6_0 T h).map fl_ref8_Is_27_6_0) L_ref8_Is_27_6_0 (fun y => .alt y (altE 8 x_ref8_Is_27_6_0_0 un_ref8_Is_27_6_0_0) (altE 1 x_ref8_Is_27_6_0_1 un_ref8_Is_27_6_0_1)) (fun _ _ => .fail))
noncomputable def lc_ref8_Is_27_6 : Lpc := ⟨27, 6, 123, (fun base T => .norm base (kp_ref8_Is_27_6 0) T (q_ref8_Is_27_6 base)), by kernel_rfl, by kernel_rfl, (loopU sp_ref8_Is [lc_ref8_Is_27_0, lc_ref8_Is_27_2] 40 1048576 8 (keep := kp_ref8_Is_27_6) (q := q_ref8_Is_27_6) (by kernel_rfl) (varX_ok (s := s_ref8_Is_27_6_0) (un := un_ref8_Is_27_6_0) (by rfl) (fun _ => rfl) (getOr_ok (getE_ok (s := x_ref8_Is_27_6_0_0) (un := un_ref8_Is_27_6_0_0) (by rfl) (fun _ => rfl)) (getE_ok (s := x_ref8_Is_27_6_0_1) (un := un_ref8_Is_27_6_0_1) (by rfl) (fun _ => rfl))) (step := sx_ref8_Is_27_6_0) rn_ref8_Is_27_6_0 (fun _ _ e => ⟨_, e⟩) (altOr_ok (altE_ok 8 x_ref8_Is_27_6_0_0 un_ref8_Is_27_6_0_0) (altE_ok 1 x_ref8_Is_27_6_0_1 un_ref8_Is_27_6_0_1)) (VarOk.fail _ _)))⟩
noncomputable abbrev cx_ref8_Is_27_4 := cxU sp_ref8_Is [lc_ref8_Is_27_0, lc_ref8_Is_27_2, lc_ref8_Is_27_6] 40 1048576
def s_ref8_Is_27_4_0 : StS := ⟨[(1, .ptr 0 0), (5, .int .i64)], [(0, .box [.sl (.int .i64), .sl (.int .i64), .int .i64, .sl tC])], 1⟩
def x_ref8_Is_27_4_0_0 : StS := ⟨[(2, .undef)], [], 0⟩
def x_ref8_Is_27_4_0_1 : StS := ⟨[(2, .bool)], [], 0⟩
abbrev X_ref8_Is_27_4_0 := (Int × (List Int) × (List Int) × Int × (List C))
def fl_ref8_Is_27_4_0 (d : StD s_ref8_Is_27_4_0) : X_ref8_Is_27_4_0 := (d.1.2.1, d.2.1.1, d.2.1.2.1, d.2.1.2.2.1, d.2.1.2.2.2.1)
def un_ref8_Is_27_4_0 (x : X_ref8_Is_27_4_0) : StD s_ref8_Is_27_4_0 := (((), x.1, ()), ((x.2.1, x.2.2.1, x.2.2.2.1, x.2.2.2.2, ()), ()))
abbrev X_ref8_Is_27_4_0_0 := Unit
def fl_ref8_Is_27_4_0_0 (d : StD x_ref8_Is_27_4_0_0) : X_ref8_Is_27_4_0_0 := ()
def un_ref8_Is_27_4_0_0 (x : X_ref8_Is_27_4_0_0) : StD x_ref8_Is_27_4_0_0 := (((), ()), ())
abbrev X_ref8_Is_27_4_0_1 := Bool
def fl_ref8_Is_27_4_0_1 (d : StD x_ref8_Is_27_4_0_1) : X_ref8_Is_27_4_0_1 := (d.1.1)
def un_ref8_Is_27_4_0_1 (x : X_ref8_Is_27_4_0_1) : StD x_ref8_Is_27_4_0_1 := ((x, ()), ())
noncomputable def st_ref8_Is_27_4_0 (s5 : Int) (b0 : (List Int)) (b0_1 : (List Int)) (b0_2 : Int) (b0_3 : (List C)) : Option ((Int × (List Int) × (List Int) × Int × (List C)) ⊕ (Unit ⊕ Bool)) :=
  bif decide (s5 < (↑b0_3.length : Int)) then
 bif decide (0 ≤ s5) then
 optC b0_3[s5.toNat]? none fun d10 ↦
 optC (G_ref8_in (d10.1, 41, ())) none fun d11 ↦
 bif !d11 then some (Sum.inr (Sum.inr false))
 else
 bif decide ((↑(List.length d10.2) : Int) < 1) then some (Sum.inr (Sum.inr false))
 else
 bif decide ((↑(List.length d10.2) : Int) > 60) then some (Sum.inr (Sum.inr false))
 else
 bif decide (0 ≤ Go.IntKind.i64.wrap ((↑(List.length d10.2) : Int) - 1)) then
 optC d10.2[(Go.IntKind.i64.wrap ((↑(List.length d10.2) : Int) - 1)).toNat]? none fun d12 ↦
 bif d12.1 != 14 then some (Sum.inr (Sum.inr false))
 else
 optC (L_ref8_Is_27_6_0 (s5, (↑(List.length d10.2) : Int), 0, b0, b0_1, b0_2, b0_3, d10)) none fun d13 ↦
 Sum.elim (fun e14 ↦ some (Sum.inl (Go.IntKind.i64.wrap (e14.1 + 1), e14.2.1, e14.2.2.1, e14.2.2.2.1, e14.2.2.2.2)))
 (fun e14 ↦ some (Sum.inr (Sum.inr e14.1))) d13
 else none
 else none
 else some (Sum.inr (Sum.inl PUnit.unit))
noncomputable def sx_ref8_Is_27_4_0 (x : X_ref8_Is_27_4_0) : Option (X_ref8_Is_27_4_0 ⊕ (X_ref8_Is_27_4_0_0 ⊕ X_ref8_Is_27_4_0_1)) := st_ref8_Is_27_4_0 x.1 x.2.1 x.2.2.1 x.2.2.2.1 x.2.2.2.2
theorem rn_ref8_Is_27_4_0 (x : X_ref8_Is_27_4_0) : rdX cx_ref8_Is_27_4 keeps 8 ⟨27, 123, keeps 27, 0⟩ 4 (bodyX 27 4) 0 kp_ref8_Is_27_4 (sT s_ref8_Is_27_4_0 (un_ref8_Is_27_4_0 x)) (sH s_ref8_Is_27_4_0 (un_ref8_Is_27_4_0 x)) (rdO (fun T h => (rdS s_ref8_Is_27_4_0 T h).map fl_ref8_Is_27_4_0) (getOr (getE 6 x_ref8_Is_27_4_0_0 fl_ref8_Is_27_4_0_0) (getE 1 x_ref8_Is_27_4_0_1 fl_ref8_Is_27_4_0_1))) = sx_ref8_Is_27_4_0 x := by kernel_rfl
noncomputable def L_ref8_Is_27_4_0 (x : X_ref8_Is_27_4_0) : Option (X_ref8_Is_27_4_0_0 ⊕ X_ref8_Is_27_4_0_1) := iterO (fun x => st_ref8_Is_27_4_0 x.1 x.2.1 x.2.2.1 x.2.2.2.1 x.2.2.2.2) FUEL x
noncomputable def q_ref8_Is_27_4 : Nat → Tm → Prog (Nat × Tm) := (varP 0 (fun T h => (rdS s_ref8_Is_27_4_0 T h).map fl_ref8_Is_27_4_0) L_ref8_Is_27_4_0 (fun y => .alt y (altE 6 x_ref8_Is_27_4_0_0 un_ref8_Is_27_4_0_0) (altE 1 x_ref8_Is_27_4_0_1 un_ref8_Is_27_4_0_1)) (fun _ _ => .fail))
noncomputable def lc_ref8_Is_27_4 : Lpc := ⟨27, 4, 123, (fun base T => .norm base (kp_ref8_Is_27_4 0) T (q_ref8_Is_27_4 base)), by kernel_rfl, by kernel_rfl, (loopU sp_ref8_Is [lc_ref8_Is_27_0, lc_ref8_Is_27_2, lc_ref8_Is_27_6] 40 1048576 8 (keep := kp_ref8_Is_27_4) (q := q_ref8_Is_27_4) (by kernel_rfl) (varX_ok (s := s_ref8_Is_27_4_0) (un := un_ref8_Is_27_4_0) (by rfl) (fun _ => rfl) (getOr_ok (getE_ok (s := x_ref8_Is_27_4_0_0) (un := un_ref8_Is_27_4_0_0) (by rfl) (fun _ => rfl)) (getE_ok (s := x_ref8_Is_27_4_0_1) (un := un_ref8_Is_27_4_0_1) (by rfl) (fun _ => rfl))) (step := sx_ref8_Is_27_4_0) rn_ref8_Is_27_4_0 (fun _ _ e => ⟨_, e⟩) (altOr_ok (altE_ok 6 x_ref8_Is_27_4_0_0 un_ref8_Is_27_4_0_0) (altE_ok 1 x_ref8_Is_27_4_0_1 un_ref8_Is_27_4_0_1)) (VarOk.fail _ _)))⟩
noncomputable def g_ref8_Is (a0 : U) : Option Bool :=
  bif decide ((↑(List.length a0.1) : Int) > 6) then some false
 else
 bif decide ((↑(List.length a0.2.1) : Int) > 3) then some false
 else
 optC (G_ref8_in (a0.2.2.1, 7, ())) none fun d6 ↦
 bif !d6 then some false
 else
 bif decide ((↑(List.length a0.2.2.2) : Int) < 1) then some false
 else
 bif decide ((↑(List.length a0.2.2.2) : Int) > 4) then some false
 else
 optC (L_ref8_Is_27_0_0 (0, a0)) none fun d7 ↦
 Sum.elim
 (fun e8 ↦
 optC (L_ref8_Is_27_2_0 (0, e8)) none fun d9 ↦
 Sum.elim (fun e10 ↦ optC (L_ref8_Is_27_4_0 (0, e10)) none fun d11 ↦ Sum.elim (fun e12 ↦ some true) (fun e12 ↦ some e12) d11)
 (fun e10 ↦ some e10.1) d9)
 (fun e8 ↦ some e8.1) d7
theorem raw_ref8_Is (a0 : U) : evGX (cxU sp_ref8_Is [lc_ref8_Is_27_0, lc_ref8_Is_27_2, lc_ref8_Is_27_6, lc_ref8_Is_27_4] 40 1048576) keeps 8 27 ash_ref8_Is (.dat .bool) ((a0, ()) : (U × Unit)) = g_ref8_Is a0 := by kernel_rfl
noncomputable def G_ref8_Is (x : (U × Unit)) : Option Bool := g_ref8_Is x.1
noncomputable def con_ref8_Is : List AV → Prog AV := conP true ash_ref8_Is (.dat .bool) G_ref8_Is
theorem snd_ref8_Is : SoundA Tryz.prog 27 con_ref8_Is := conP_sound (calU sp_ref8_Is [lc_ref8_Is_27_0, lc_ref8_Is_27_2, lc_ref8_Is_27_6, lc_ref8_Is_27_4] 40 1048576 8 27) true (by rfl) (by rfl) (fun x r e => (evGX_eq _ _ _ _ _ _ _).trans ((raw_ref8_Is x.1).trans e)) (.inl rfl)
end Go.Proofs.YtmjbedjnojcmfaaGreatDoor.Ex

namespace Go.Proofs.YtmjbedjnojcmfaaGreatDoor.Ex
set_option maxRecDepth 100000
set_option maxHeartbeats 2000000
set_option linter.unusedVariables false
set_option linter.unusedSimpArgs false
noncomputable def bd_ref8_Is_27_0_0 (b0_1 : (List Int)) (b0_2 : Int) (b0_3 : (List C)) (b0 : (List Int)) (i : Nat)  (d : Int) : Option (Unit ⊕ (X_ref8_Is_27_0_0_0 ⊕ X_ref8_Is_27_0_0_1)) :=
  optC (G_ref1_Fits (d, ())) (none) fun d11 ↦
   bif !d11 then
   some (Sum.inr (Sum.inr (false, b0, b0_1, b0_2, b0_3)))
 else some (Sum.inl ())
noncomputable def fn_ref8_Is_27_0_0 (b0_1 : (List Int)) (b0_2 : Int) (b0_3 : (List C)) (b0 : (List Int))  : Option (X_ref8_Is_27_0_0_0 ⊕ X_ref8_Is_27_0_0_1) :=
  some (Sum.inl (b0, b0_1, b0_2, b0_3))
noncomputable abbrev rx_ref8_Is_27_0_0 (b0_1 : (List Int)) (b0_2 : Int) (b0_3 : (List C)) (b0 : (List Int)) (i : Nat) (s : Unit) : X_ref8_Is_27_0_0 := ((i : Int), b0, b0_1, b0_2, b0_3)
noncomputable def rv_ref8_Is_27_0_0 (b0_1 : (List Int)) (b0_2 : Int) (b0_3 : (List C)) (b0 : (List Int)) (s : Unit) : Option (X_ref8_Is_27_0_0_0 ⊕ X_ref8_Is_27_0_0_1) := rangeO (fun i s d => bd_ref8_Is_27_0_0 b0_1 b0_2 b0_3 b0 i  d) (fun s => fn_ref8_Is_27_0_0 b0_1 b0_2 b0_3 b0 ) 0 b0 s
theorem rg_ref8_Is_27_0_0 (b0_1 : (List Int)) (b0_2 : Int) (b0_3 : (List C)) (b0 : (List Int)) (s : Unit) (hl : b0.length < 9223372036854775807) : L_ref8_Is_27_0_0 (0, b0, b0_1, b0_2, b0_3) = rv_ref8_Is_27_0_0 b0_1 b0_2 b0_3 b0 s := by
  unfold L_ref8_Is_27_0_0 rv_ref8_Is_27_0_0
  refine iterO_range0 b0 (rx_ref8_Is_27_0_0 b0_1 b0_2 b0_3 b0) _ _ ?_ ?_ s (by unfold FUEL; omega)
  · intro i s d hi hd
    have e1 : decide ((i : Int) < (b0.length : Int)) = true := decide_eq_true (by omega)
    have e2 : decide (0 ≤ (i : Int)) = true := decide_eq_true (by omega)
    have e3 : Int.toNat (i : Int) = i := Int.toNat_natCast i
    have e4 := wrap_next hi (Nat.le_of_lt hl)
    show st_ref8_Is_27_0_0 ((i : Int)) (b0) (b0_1) (b0_2) (b0_3) = upd _ (bd_ref8_Is_27_0_0 b0_1 b0_2 b0_3 b0 i  d)
    unfold st_ref8_Is_27_0_0 bd_ref8_Is_27_0_0
    simp only [e1, e2, e3, e4, hd, cond_true, cond_false, optC_some, upd_cond, upd_optC, upd_elim, upd_inl, upd_inr, upd_none]
  · intro s
    have e1 : decide ((b0.length : Int) < (b0.length : Int)) = false := decide_eq_false (by omega)
    show st_ref8_Is_27_0_0 ((b0.length : Int)) (b0) (b0_1) (b0_2) (b0_3) = _
    unfold st_ref8_Is_27_0_0 fn_ref8_Is_27_0_0
    rw [e1]
    rfl
noncomputable def bd_ref8_Is_27_2_0 (b0 : (List Int)) (b0_2 : Int) (b0_3 : (List C)) (b0_1 : (List Int)) (i : Nat)  (d : Int) : Option (Unit ⊕ (X_ref8_Is_27_2_0_0 ⊕ X_ref8_Is_27_2_0_1)) :=
  bif decide (d < 1) then
   some (Sum.inr (Sum.inr (false, b0, b0_1, b0_2, b0_3)))
 else bif decide (d > 16) then
   some (Sum.inr (Sum.inr (false, b0, b0_1, b0_2, b0_3)))
 else some (Sum.inl ())
noncomputable def fn_ref8_Is_27_2_0 (b0 : (List Int)) (b0_2 : Int) (b0_3 : (List C)) (b0_1 : (List Int))  : Option (X_ref8_Is_27_2_0_0 ⊕ X_ref8_Is_27_2_0_1) :=
  some (Sum.inl (b0, b0_1, b0_2, b0_3))
noncomputable abbrev rx_ref8_Is_27_2_0 (b0 : (List Int)) (b0_2 : Int) (b0_3 : (List C)) (b0_1 : (List Int)) (i : Nat) (s : Unit) : X_ref8_Is_27_2_0 := ((i : Int), b0, b0_1, b0_2, b0_3)
noncomputable def rv_ref8_Is_27_2_0 (b0 : (List Int)) (b0_2 : Int) (b0_3 : (List C)) (b0_1 : (List Int)) (s : Unit) : Option (X_ref8_Is_27_2_0_0 ⊕ X_ref8_Is_27_2_0_1) := rangeO (fun i s d => bd_ref8_Is_27_2_0 b0 b0_2 b0_3 b0_1 i  d) (fun s => fn_ref8_Is_27_2_0 b0 b0_2 b0_3 b0_1 ) 0 b0_1 s
theorem rg_ref8_Is_27_2_0 (b0 : (List Int)) (b0_2 : Int) (b0_3 : (List C)) (b0_1 : (List Int)) (s : Unit) (hl : b0_1.length < 9223372036854775807) : L_ref8_Is_27_2_0 (0, b0, b0_1, b0_2, b0_3) = rv_ref8_Is_27_2_0 b0 b0_2 b0_3 b0_1 s := by
  unfold L_ref8_Is_27_2_0 rv_ref8_Is_27_2_0
  refine iterO_range0 b0_1 (rx_ref8_Is_27_2_0 b0 b0_2 b0_3 b0_1) _ _ ?_ ?_ s (by unfold FUEL; omega)
  · intro i s d hi hd
    have e1 : decide ((i : Int) < (b0_1.length : Int)) = true := decide_eq_true (by omega)
    have e2 : decide (0 ≤ (i : Int)) = true := decide_eq_true (by omega)
    have e3 : Int.toNat (i : Int) = i := Int.toNat_natCast i
    have e4 := wrap_next hi (Nat.le_of_lt hl)
    show st_ref8_Is_27_2_0 ((i : Int)) (b0) (b0_1) (b0_2) (b0_3) = upd _ (bd_ref8_Is_27_2_0 b0 b0_2 b0_3 b0_1 i  d)
    unfold st_ref8_Is_27_2_0 bd_ref8_Is_27_2_0
    simp only [e1, e2, e3, e4, hd, cond_true, cond_false, optC_some, upd_cond, upd_optC, upd_elim, upd_inl, upd_inr, upd_none]
  · intro s
    have e1 : decide ((b0_1.length : Int) < (b0_1.length : Int)) = false := decide_eq_false (by omega)
    show st_ref8_Is_27_2_0 ((b0_1.length : Int)) (b0) (b0_1) (b0_2) (b0_3) = _
    unfold st_ref8_Is_27_2_0 fn_ref8_Is_27_2_0
    rw [e1]
    rfl
noncomputable def bd_ref8_Is_27_6_0 (s5 : Int) (b0 : (List Int)) (b0_1 : (List Int)) (b0_2 : Int) (b0_3 : (List C)) (b1 : Int) (b1_1 : (List A)) (i : Nat)  (d : A) : Option (Unit ⊕ (X_ref8_Is_27_6_0_0 ⊕ X_ref8_Is_27_6_0_1)) :=
  optC (G_ref8_act ((b0, b0_1, b0_2, b0_3), (b1, b1_1), d, ())) (none) fun d15 ↦
   bif !d15 then
   some (Sum.inr (Sum.inr (false, s5, b0, b0_1, b0_2, b0_3)))
 else some (Sum.inl ())
noncomputable def fn_ref8_Is_27_6_0 (s5 : Int) (b0 : (List Int)) (b0_1 : (List Int)) (b0_2 : Int) (b0_3 : (List C)) (b1 : Int) (b1_1 : (List A))  : Option (X_ref8_Is_27_6_0_0 ⊕ X_ref8_Is_27_6_0_1) :=
  some (Sum.inl (s5, b0, b0_1, b0_2, b0_3))
noncomputable abbrev rx_ref8_Is_27_6_0 (s5 : Int) (b0 : (List Int)) (b0_1 : (List Int)) (b0_2 : Int) (b0_3 : (List C)) (b1 : Int) (b1_1 : (List A)) (i : Nat) (s : Unit) : X_ref8_Is_27_6_0 := (s5, (b1_1.length : Int), (i : Int), b0, b0_1, b0_2, b0_3, b1, b1_1)
noncomputable def rv_ref8_Is_27_6_0 (s5 : Int) (b0 : (List Int)) (b0_1 : (List Int)) (b0_2 : Int) (b0_3 : (List C)) (b1 : Int) (b1_1 : (List A)) (s : Unit) : Option (X_ref8_Is_27_6_0_0 ⊕ X_ref8_Is_27_6_0_1) := rangeO (fun i s d => bd_ref8_Is_27_6_0 s5 b0 b0_1 b0_2 b0_3 b1 b1_1 i  d) (fun s => fn_ref8_Is_27_6_0 s5 b0 b0_1 b0_2 b0_3 b1 b1_1 ) 0 b1_1 s
theorem rg_ref8_Is_27_6_0 (s5 : Int) (b0 : (List Int)) (b0_1 : (List Int)) (b0_2 : Int) (b0_3 : (List C)) (b1 : Int) (b1_1 : (List A)) (s : Unit) (hl : b1_1.length < 9223372036854775807) : L_ref8_Is_27_6_0 (s5, (b1_1.length : Int), 0, b0, b0_1, b0_2, b0_3, b1, b1_1) = rv_ref8_Is_27_6_0 s5 b0 b0_1 b0_2 b0_3 b1 b1_1 s := by
  unfold L_ref8_Is_27_6_0 rv_ref8_Is_27_6_0
  refine iterO_range0 b1_1 (rx_ref8_Is_27_6_0 s5 b0 b0_1 b0_2 b0_3 b1 b1_1) _ _ ?_ ?_ s (by unfold FUEL; omega)
  · intro i s d hi hd
    have e1 : decide ((i : Int) < (b1_1.length : Int)) = true := decide_eq_true (by omega)
    have e2 : decide (0 ≤ (i : Int)) = true := decide_eq_true (by omega)
    have e3 : Int.toNat (i : Int) = i := Int.toNat_natCast i
    have e4 := wrap_next hi (Nat.le_of_lt hl)
    show st_ref8_Is_27_6_0 (s5) ((b1_1.length : Int)) ((i : Int)) (b0) (b0_1) (b0_2) (b0_3) (b1) (b1_1) = upd _ (bd_ref8_Is_27_6_0 s5 b0 b0_1 b0_2 b0_3 b1 b1_1 i  d)
    unfold st_ref8_Is_27_6_0 bd_ref8_Is_27_6_0
    simp only [e1, e2, e3, e4, hd, cond_true, cond_false, optC_some, upd_cond, upd_optC, upd_elim, upd_inl, upd_inr, upd_none]
  · intro s
    have e1 : decide ((b1_1.length : Int) < (b1_1.length : Int)) = false := decide_eq_false (by omega)
    show st_ref8_Is_27_6_0 (s5) ((b1_1.length : Int)) ((b1_1.length : Int)) (b0) (b0_1) (b0_2) (b0_3) (b1) (b1_1) = _
    unfold st_ref8_Is_27_6_0 fn_ref8_Is_27_6_0
    rw [e1]
    rfl
end Go.Proofs.YtmjbedjnojcmfaaGreatDoor.Ex

namespace Go.Proofs.YtmjbedjnojcmfaaGreatDoor.Ex
set_option maxRecDepth 100000
set_option linter.unusedVariables false
set_option linter.unusedSimpArgs false
theorem n_ref1_Fits (n : Int) : g_ref1_Fits n = some (fitB n) := by
  unfold g_ref1_Fits fitB
  cases decide (n ≥ -2147483648) <;> rfl
def inB (k n : Int) : Bool := decide (k ≥ 0) && decide (k < n)
theorem n_ref8_in (k n : Int) : g_ref8_in k n = some (inB k n) := by
  unfold g_ref8_in inB
  cases decide (k ≥ 0) <;> rfl
theorem us_0_1 : g_ref8_uses 0 1 = some false := by kernel_rfl
theorem us_0_2 : g_ref8_uses 0 2 = some false := by kernel_rfl
theorem us_0_3 : g_ref8_uses 0 3 = some false := by kernel_rfl
theorem us_0_4 : g_ref8_uses 0 4 = some false := by kernel_rfl
theorem us_1_1 : g_ref8_uses 1 1 = some true := by kernel_rfl
theorem us_1_2 : g_ref8_uses 1 2 = some false := by kernel_rfl
theorem us_1_3 : g_ref8_uses 1 3 = some false := by kernel_rfl
theorem us_1_4 : g_ref8_uses 1 4 = some false := by kernel_rfl
theorem us_2_1 : g_ref8_uses 2 1 = some true := by kernel_rfl
theorem us_2_2 : g_ref8_uses 2 2 = some true := by kernel_rfl
theorem us_2_3 : g_ref8_uses 2 3 = some false := by kernel_rfl
theorem us_2_4 : g_ref8_uses 2 4 = some false := by kernel_rfl
theorem us_3_1 : g_ref8_uses 3 1 = some true := by kernel_rfl
theorem us_3_2 : g_ref8_uses 3 2 = some false := by kernel_rfl
theorem us_3_3 : g_ref8_uses 3 3 = some false := by kernel_rfl
theorem us_3_4 : g_ref8_uses 3 4 = some false := by kernel_rfl
theorem us_4_1 : g_ref8_uses 4 1 = some true := by kernel_rfl
theorem us_4_2 : g_ref8_uses 4 2 = some true := by kernel_rfl
theorem us_4_3 : g_ref8_uses 4 3 = some true := by kernel_rfl
theorem us_4_4 : g_ref8_uses 4 4 = some false := by kernel_rfl
theorem us_5_1 : g_ref8_uses 5 1 = some true := by kernel_rfl
theorem us_5_2 : g_ref8_uses 5 2 = some false := by kernel_rfl
theorem us_5_3 : g_ref8_uses 5 3 = some false := by kernel_rfl
theorem us_5_4 : g_ref8_uses 5 4 = some true := by kernel_rfl
theorem us_6_1 : g_ref8_uses 6 1 = some false := by kernel_rfl
theorem us_6_2 : g_ref8_uses 6 2 = some true := by kernel_rfl
theorem us_6_3 : g_ref8_uses 6 3 = some false := by kernel_rfl
theorem us_6_4 : g_ref8_uses 6 4 = some true := by kernel_rfl
theorem us_7_1 : g_ref8_uses 7 1 = some true := by kernel_rfl
theorem us_7_2 : g_ref8_uses 7 2 = some true := by kernel_rfl
theorem us_7_3 : g_ref8_uses 7 3 = some false := by kernel_rfl
theorem us_7_4 : g_ref8_uses 7 4 = some true := by kernel_rfl
theorem us_8_1 : g_ref8_uses 8 1 = some false := by kernel_rfl
theorem us_8_2 : g_ref8_uses 8 2 = some true := by kernel_rfl
theorem us_8_3 : g_ref8_uses 8 3 = some true := by kernel_rfl
theorem us_8_4 : g_ref8_uses 8 4 = some true := by kernel_rfl
theorem us_9_1 : g_ref8_uses 9 1 = some false := by kernel_rfl
theorem us_9_2 : g_ref8_uses 9 2 = some false := by kernel_rfl
theorem us_9_3 : g_ref8_uses 9 3 = some false := by kernel_rfl
theorem us_9_4 : g_ref8_uses 9 4 = some true := by kernel_rfl
theorem us_10_1 : g_ref8_uses 10 1 = some false := by kernel_rfl
theorem us_10_2 : g_ref8_uses 10 2 = some false := by kernel_rfl
theorem us_10_3 : g_ref8_uses 10 3 = some false := by kernel_rfl
theorem us_10_4 : g_ref8_uses 10 4 = some true := by kernel_rfl
theorem us_11_1 : g_ref8_uses 11 1 = some false := by kernel_rfl
theorem us_11_2 : g_ref8_uses 11 2 = some true := by kernel_rfl
theorem us_11_3 : g_ref8_uses 11 3 = some true := by kernel_rfl
theorem us_11_4 : g_ref8_uses 11 4 = some false := by kernel_rfl
theorem us_12_1 : g_ref8_uses 12 1 = some false := by kernel_rfl
theorem us_12_2 : g_ref8_uses 12 2 = some false := by kernel_rfl
theorem us_12_3 : g_ref8_uses 12 3 = some false := by kernel_rfl
theorem us_12_4 : g_ref8_uses 12 4 = some false := by kernel_rfl
theorem us_13_1 : g_ref8_uses 13 1 = some false := by kernel_rfl
theorem us_13_2 : g_ref8_uses 13 2 = some false := by kernel_rfl
theorem us_13_3 : g_ref8_uses 13 3 = some false := by kernel_rfl
theorem us_13_4 : g_ref8_uses 13 4 = some false := by kernel_rfl
theorem us_14_1 : g_ref8_uses 14 1 = some false := by kernel_rfl
theorem us_14_2 : g_ref8_uses 14 2 = some false := by kernel_rfl
theorem us_14_3 : g_ref8_uses 14 3 = some false := by kernel_rfl
theorem us_14_4 : g_ref8_uses 14 4 = some false := by kernel_rfl
def usesB (k f : Int) : Bool :=
  if f = 1 then k == 1 || k == 2 || k == 3 || k == 4 || k == 5 || k == 7
  else if f = 2 then k == 2 || k == 4 || k == 6 || k == 7 || k == 8 || k == 11
  else if f = 3 then k == 4 || k == 8 || k == 11
  else k == 5 || k == 6 || k == 7 || k == 8 || k == 9 || k == 10
theorem n_ref8_uses (k f : Int) (hk : 0 ≤ k ∧ k ≤ 14) (hf : 1 ≤ f ∧ f ≤ 4) : g_ref8_uses k f = some (usesB k f) := by
  have h1 : k = 0 ∨ k = 1 ∨ k = 2 ∨ k = 3 ∨ k = 4 ∨ k = 5 ∨ k = 6 ∨ k = 7 ∨ k = 8 ∨ k = 9 ∨ k = 10 ∨ k = 11 ∨ k = 12 ∨ k = 13 ∨ k = 14 := by omega
  have h2 : f = 1 ∨ f = 2 ∨ f = 3 ∨ f = 4 := by omega
  rcases h1 with rfl | rfl | rfl | rfl | rfl | rfl | rfl | rfl | rfl | rfl | rfl | rfl | rfl | rfl | rfl <;> rcases h2 with rfl | rfl | rfl | rfl
  · exact us_0_1
  · exact us_0_2
  · exact us_0_3
  · exact us_0_4
  · exact us_1_1
  · exact us_1_2
  · exact us_1_3
  · exact us_1_4
  · exact us_2_1
  · exact us_2_2
  · exact us_2_3
  · exact us_2_4
  · exact us_3_1
  · exact us_3_2
  · exact us_3_3
  · exact us_3_4
  · exact us_4_1
  · exact us_4_2
  · exact us_4_3
  · exact us_4_4
  · exact us_5_1
  · exact us_5_2
  · exact us_5_3
  · exact us_5_4
  · exact us_6_1
  · exact us_6_2
  · exact us_6_3
  · exact us_6_4
  · exact us_7_1
  · exact us_7_2
  · exact us_7_3
  · exact us_7_4
  · exact us_8_1
  · exact us_8_2
  · exact us_8_3
  · exact us_8_4
  · exact us_9_1
  · exact us_9_2
  · exact us_9_3
  · exact us_9_4
  · exact us_10_1
  · exact us_10_2
  · exact us_10_3
  · exact us_10_4
  · exact us_11_1
  · exact us_11_2
  · exact us_11_3
  · exact us_11_4
  · exact us_12_1
  · exact us_12_2
  · exact us_12_3
  · exact us_12_4
  · exact us_13_1
  · exact us_13_2
  · exact us_13_3
  · exact us_13_4
  · exact us_14_1
  · exact us_14_2
  · exact us_14_3
  · exact us_14_4
def hasV (k f v bd : Int) : Bool := if usesB k f = true then inB v bd else v == 0
theorem n_ref8_has (k f v bd : Int) (hk : 0 ≤ k ∧ k ≤ 14) (hf : 1 ≤ f ∧ f ≤ 4) : g_ref8_has k f v bd = some (hasV k f v bd) := by
  unfold g_ref8_has G_ref8_uses G_ref8_in hasV
  simp only [n_ref8_uses k f hk hf, n_ref8_in, optC_some]
  cases usesB k f <;> rfl
def gBd (u : U) (k : Int) : Int := if k = 5 ∨ k = 6 then (u.1.length : Int) else if k = 7 ∨ k = 8 then (u.2.1.length : Int) else u.2.2.1
structure actOK (u : U) (c : C) (a : A) : Prop where
  k1 : 1 ≤ a.1
  k2 : a.1 ≤ 14
  n : fitB a.2.2.2.2.2.1 = true
  n0 : a.1 ≠ 1 → a.2.2.2.2.2.1 = 0
  nx : 0 ≤ a.2.2.2.2.2.2.2.1 ∧ a.2.2.2.2.2.2.2.1 < (c.2.length : Int)
  el : 0 ≤ a.2.2.2.2.2.2.2.2 ∧ a.2.2.2.2.2.2.2.2 < (c.2.length : Int)
  el0 : a.1 ≠ 11 → a.2.2.2.2.2.2.2.2 = 0
  op4 : a.1 = 4 → 1 ≤ a.2.2.2.2.2.2.1 ∧ a.2.2.2.2.2.2.1 ≤ 5
  op11 : a.1 = 11 → 1 ≤ a.2.2.2.2.2.2.1 ∧ a.2.2.2.2.2.2.1 ≤ 6
  op0 : a.1 ≠ 4 → a.1 ≠ 11 → a.2.2.2.2.2.2.1 = 0
  h1 : hasV a.1 1 a.2.1 c.1 = true
  h2 : hasV a.1 2 a.2.2.1 c.1 = true
  h3 : hasV a.1 3 a.2.2.2.1 c.1 = true
  h4 : hasV a.1 4 a.2.2.2.2.1 (gBd u a.1) = true
theorem act_1 (a0 : U) (a1 : C) (T X Y G N op nx el : Int) : g_ref8_act a0 a1 (1, T, X, Y, G, N, op, nx, el) =
  optC (G_ref1_Fits (N, ())) (none) fun d4 ↦
   bif !d4 then
   some false
 else optC (G_ref8_in (nx, (↑(List.length a1.2) : Int), ())) (none) fun d5 ↦
   bif !d5 then
   some false
 else optC (G_ref8_in (el, (↑(List.length a1.2) : Int), ())) (none) fun d6 ↦
   bif !d6 then
   some false
 else bif el != 0 then
   some false
 else bif op != 0 then
   some false
 else optC (G_ref8_has (1, 1, T, a1.1, ())) (none) fun d7 ↦
   bif d7 then
   optC (G_ref8_has (1, 2, X, 0, ())) (none) fun d8 ↦
   bif d8 then
   optC (G_ref8_has (1, 3, Y, 0, ())) (none) fun d9 ↦
   bif d9 then
   optC (G_ref8_has (1, 4, G, 0, ())) (none) fun d10 ↦
   some d10
 else some false
 else some false
 else some false := by kernel_rfl
theorem act_2 (a0 : U) (a1 : C) (T X Y G N op nx el : Int) : g_ref8_act a0 a1 (2, T, X, Y, G, N, op, nx, el) =
  bif N != 0 then
   some false
 else optC (G_ref1_Fits (N, ())) (none) fun d4 ↦
   bif !d4 then
   some false
 else optC (G_ref8_in (nx, (↑(List.length a1.2) : Int), ())) (none) fun d5 ↦
   bif !d5 then
   some false
 else optC (G_ref8_in (el, (↑(List.length a1.2) : Int), ())) (none) fun d6 ↦
   bif !d6 then
   some false
 else bif el != 0 then
   some false
 else bif op != 0 then
   some false
 else optC (G_ref8_has (2, 1, T, a1.1, ())) (none) fun d7 ↦
   bif d7 then
   optC (G_ref8_has (2, 2, X, a1.1, ())) (none) fun d8 ↦
   bif d8 then
   optC (G_ref8_has (2, 3, Y, 0, ())) (none) fun d9 ↦
   bif d9 then
   optC (G_ref8_has (2, 4, G, 0, ())) (none) fun d10 ↦
   some d10
 else some false
 else some false
 else some false := by kernel_rfl
theorem act_3 (a0 : U) (a1 : C) (T X Y G N op nx el : Int) : g_ref8_act a0 a1 (3, T, X, Y, G, N, op, nx, el) =
  bif N != 0 then
   some false
 else optC (G_ref1_Fits (N, ())) (none) fun d4 ↦
   bif !d4 then
   some false
 else optC (G_ref8_in (nx, (↑(List.length a1.2) : Int), ())) (none) fun d5 ↦
   bif !d5 then
   some false
 else optC (G_ref8_in (el, (↑(List.length a1.2) : Int), ())) (none) fun d6 ↦
   bif !d6 then
   some false
 else bif el != 0 then
   some false
 else bif op != 0 then
   some false
 else optC (G_ref8_has (3, 1, T, a1.1, ())) (none) fun d7 ↦
   bif d7 then
   optC (G_ref8_has (3, 2, X, 0, ())) (none) fun d8 ↦
   bif d8 then
   optC (G_ref8_has (3, 3, Y, 0, ())) (none) fun d9 ↦
   bif d9 then
   optC (G_ref8_has (3, 4, G, 0, ())) (none) fun d10 ↦
   some d10
 else some false
 else some false
 else some false := by kernel_rfl
theorem act_4 (a0 : U) (a1 : C) (T X Y G N op nx el : Int) : g_ref8_act a0 a1 (4, T, X, Y, G, N, op, nx, el) =
  bif N != 0 then
   some false
 else optC (G_ref1_Fits (N, ())) (none) fun d4 ↦
   bif !d4 then
   some false
 else optC (G_ref8_in (nx, (↑(List.length a1.2) : Int), ())) (none) fun d5 ↦
   bif !d5 then
   some false
 else optC (G_ref8_in (el, (↑(List.length a1.2) : Int), ())) (none) fun d6 ↦
   bif !d6 then
   some false
 else bif el != 0 then
   some false
 else bif decide (op < 1) then
   some false
 else bif decide (op ≥ 6) then
   some false
 else optC (G_ref8_has (4, 1, T, a1.1, ())) (none) fun d7 ↦
   bif d7 then
   optC (G_ref8_has (4, 2, X, a1.1, ())) (none) fun d8 ↦
   bif d8 then
   optC (G_ref8_has (4, 3, Y, a1.1, ())) (none) fun d9 ↦
   bif d9 then
   optC (G_ref8_has (4, 4, G, 0, ())) (none) fun d10 ↦
   some d10
 else some false
 else some false
 else some false := by kernel_rfl
theorem act_5 (a0 : U) (a1 : C) (T X Y G N op nx el : Int) : g_ref8_act a0 a1 (5, T, X, Y, G, N, op, nx, el) =
  bif N != 0 then
   some false
 else optC (G_ref1_Fits (N, ())) (none) fun d4 ↦
   bif !d4 then
   some false
 else optC (G_ref8_in (nx, (↑(List.length a1.2) : Int), ())) (none) fun d5 ↦
   bif !d5 then
   some false
 else optC (G_ref8_in (el, (↑(List.length a1.2) : Int), ())) (none) fun d6 ↦
   bif !d6 then
   some false
 else bif el != 0 then
   some false
 else bif op != 0 then
   some false
 else optC (G_ref8_has (5, 1, T, a1.1, ())) (none) fun d7 ↦
   bif d7 then
   optC (G_ref8_has (5, 2, X, 0, ())) (none) fun d8 ↦
   bif d8 then
   optC (G_ref8_has (5, 3, Y, 0, ())) (none) fun d9 ↦
   bif d9 then
   optC (G_ref8_has (5, 4, G, (↑(List.length a0.1) : Int), ())) (none) fun d10 ↦
   some d10
 else some false
 else some false
 else some false := by kernel_rfl
theorem act_6 (a0 : U) (a1 : C) (T X Y G N op nx el : Int) : g_ref8_act a0 a1 (6, T, X, Y, G, N, op, nx, el) =
  bif N != 0 then
   some false
 else optC (G_ref1_Fits (N, ())) (none) fun d4 ↦
   bif !d4 then
   some false
 else optC (G_ref8_in (nx, (↑(List.length a1.2) : Int), ())) (none) fun d5 ↦
   bif !d5 then
   some false
 else optC (G_ref8_in (el, (↑(List.length a1.2) : Int), ())) (none) fun d6 ↦
   bif !d6 then
   some false
 else bif el != 0 then
   some false
 else bif op != 0 then
   some false
 else optC (G_ref8_has (6, 1, T, 0, ())) (none) fun d7 ↦
   bif d7 then
   optC (G_ref8_has (6, 2, X, a1.1, ())) (none) fun d8 ↦
   bif d8 then
   optC (G_ref8_has (6, 3, Y, 0, ())) (none) fun d9 ↦
   bif d9 then
   optC (G_ref8_has (6, 4, G, (↑(List.length a0.1) : Int), ())) (none) fun d10 ↦
   some d10
 else some false
 else some false
 else some false := by kernel_rfl
theorem act_7 (a0 : U) (a1 : C) (T X Y G N op nx el : Int) : g_ref8_act a0 a1 (7, T, X, Y, G, N, op, nx, el) =
  bif N != 0 then
   some false
 else optC (G_ref1_Fits (N, ())) (none) fun d4 ↦
   bif !d4 then
   some false
 else optC (G_ref8_in (nx, (↑(List.length a1.2) : Int), ())) (none) fun d5 ↦
   bif !d5 then
   some false
 else optC (G_ref8_in (el, (↑(List.length a1.2) : Int), ())) (none) fun d6 ↦
   bif !d6 then
   some false
 else bif el != 0 then
   some false
 else bif op != 0 then
   some false
 else optC (G_ref8_has (7, 1, T, a1.1, ())) (none) fun d7 ↦
   bif d7 then
   optC (G_ref8_has (7, 2, X, a1.1, ())) (none) fun d8 ↦
   bif d8 then
   optC (G_ref8_has (7, 3, Y, 0, ())) (none) fun d9 ↦
   bif d9 then
   optC (G_ref8_has (7, 4, G, (↑(List.length a0.2.1) : Int), ())) (none) fun d10 ↦
   some d10
 else some false
 else some false
 else some false := by kernel_rfl
theorem act_8 (a0 : U) (a1 : C) (T X Y G N op nx el : Int) : g_ref8_act a0 a1 (8, T, X, Y, G, N, op, nx, el) =
  bif N != 0 then
   some false
 else optC (G_ref1_Fits (N, ())) (none) fun d4 ↦
   bif !d4 then
   some false
 else optC (G_ref8_in (nx, (↑(List.length a1.2) : Int), ())) (none) fun d5 ↦
   bif !d5 then
   some false
 else optC (G_ref8_in (el, (↑(List.length a1.2) : Int), ())) (none) fun d6 ↦
   bif !d6 then
   some false
 else bif el != 0 then
   some false
 else bif op != 0 then
   some false
 else optC (G_ref8_has (8, 1, T, 0, ())) (none) fun d7 ↦
   bif d7 then
   optC (G_ref8_has (8, 2, X, a1.1, ())) (none) fun d8 ↦
   bif d8 then
   optC (G_ref8_has (8, 3, Y, a1.1, ())) (none) fun d9 ↦
   bif d9 then
   optC (G_ref8_has (8, 4, G, (↑(List.length a0.2.1) : Int), ())) (none) fun d10 ↦
   some d10
 else some false
 else some false
 else some false := by kernel_rfl
theorem act_9 (a0 : U) (a1 : C) (T X Y G N op nx el : Int) : g_ref8_act a0 a1 (9, T, X, Y, G, N, op, nx, el) =
  bif N != 0 then
   some false
 else optC (G_ref1_Fits (N, ())) (none) fun d4 ↦
   bif !d4 then
   some false
 else optC (G_ref8_in (nx, (↑(List.length a1.2) : Int), ())) (none) fun d5 ↦
   bif !d5 then
   some false
 else optC (G_ref8_in (el, (↑(List.length a1.2) : Int), ())) (none) fun d6 ↦
   bif !d6 then
   some false
 else bif el != 0 then
   some false
 else bif op != 0 then
   some false
 else optC (G_ref8_has (9, 1, T, 0, ())) (none) fun d7 ↦
   bif d7 then
   optC (G_ref8_has (9, 2, X, 0, ())) (none) fun d8 ↦
   bif d8 then
   optC (G_ref8_has (9, 3, Y, 0, ())) (none) fun d9 ↦
   bif d9 then
   optC (G_ref8_has (9, 4, G, a0.2.2.1, ())) (none) fun d10 ↦
   some d10
 else some false
 else some false
 else some false := by kernel_rfl
theorem act_10 (a0 : U) (a1 : C) (T X Y G N op nx el : Int) : g_ref8_act a0 a1 (10, T, X, Y, G, N, op, nx, el) =
  bif N != 0 then
   some false
 else optC (G_ref1_Fits (N, ())) (none) fun d4 ↦
   bif !d4 then
   some false
 else optC (G_ref8_in (nx, (↑(List.length a1.2) : Int), ())) (none) fun d5 ↦
   bif !d5 then
   some false
 else optC (G_ref8_in (el, (↑(List.length a1.2) : Int), ())) (none) fun d6 ↦
   bif !d6 then
   some false
 else bif el != 0 then
   some false
 else bif op != 0 then
   some false
 else optC (G_ref8_has (10, 1, T, 0, ())) (none) fun d7 ↦
   bif d7 then
   optC (G_ref8_has (10, 2, X, 0, ())) (none) fun d8 ↦
   bif d8 then
   optC (G_ref8_has (10, 3, Y, 0, ())) (none) fun d9 ↦
   bif d9 then
   optC (G_ref8_has (10, 4, G, a0.2.2.1, ())) (none) fun d10 ↦
   some d10
 else some false
 else some false
 else some false := by kernel_rfl
theorem act_11 (a0 : U) (a1 : C) (T X Y G N op nx el : Int) : g_ref8_act a0 a1 (11, T, X, Y, G, N, op, nx, el) =
  bif N != 0 then
   some false
 else optC (G_ref1_Fits (N, ())) (none) fun d4 ↦
   bif !d4 then
   some false
 else optC (G_ref8_in (nx, (↑(List.length a1.2) : Int), ())) (none) fun d5 ↦
   bif !d5 then
   some false
 else optC (G_ref8_in (el, (↑(List.length a1.2) : Int), ())) (none) fun d6 ↦
   bif !d6 then
   some false
 else bif decide (op < 1) then
   some false
 else bif decide (op ≥ 7) then
   some false
 else optC (G_ref8_has (11, 1, T, 0, ())) (none) fun d7 ↦
   bif d7 then
   optC (G_ref8_has (11, 2, X, a1.1, ())) (none) fun d8 ↦
   bif d8 then
   optC (G_ref8_has (11, 3, Y, a1.1, ())) (none) fun d9 ↦
   bif d9 then
   optC (G_ref8_has (11, 4, G, 0, ())) (none) fun d10 ↦
   some d10
 else some false
 else some false
 else some false := by kernel_rfl
theorem act_12 (a0 : U) (a1 : C) (T X Y G N op nx el : Int) : g_ref8_act a0 a1 (12, T, X, Y, G, N, op, nx, el) =
  bif N != 0 then
   some false
 else optC (G_ref1_Fits (N, ())) (none) fun d4 ↦
   bif !d4 then
   some false
 else optC (G_ref8_in (nx, (↑(List.length a1.2) : Int), ())) (none) fun d5 ↦
   bif !d5 then
   some false
 else optC (G_ref8_in (el, (↑(List.length a1.2) : Int), ())) (none) fun d6 ↦
   bif !d6 then
   some false
 else bif el != 0 then
   some false
 else bif op != 0 then
   some false
 else optC (G_ref8_has (12, 1, T, 0, ())) (none) fun d7 ↦
   bif d7 then
   optC (G_ref8_has (12, 2, X, 0, ())) (none) fun d8 ↦
   bif d8 then
   optC (G_ref8_has (12, 3, Y, 0, ())) (none) fun d9 ↦
   bif d9 then
   optC (G_ref8_has (12, 4, G, 0, ())) (none) fun d10 ↦
   some d10
 else some false
 else some false
 else some false := by kernel_rfl
theorem act_13 (a0 : U) (a1 : C) (T X Y G N op nx el : Int) : g_ref8_act a0 a1 (13, T, X, Y, G, N, op, nx, el) =
  bif N != 0 then
   some false
 else optC (G_ref1_Fits (N, ())) (none) fun d4 ↦
   bif !d4 then
   some false
 else optC (G_ref8_in (nx, (↑(List.length a1.2) : Int), ())) (none) fun d5 ↦
   bif !d5 then
   some false
 else optC (G_ref8_in (el, (↑(List.length a1.2) : Int), ())) (none) fun d6 ↦
   bif !d6 then
   some false
 else bif el != 0 then
   some false
 else bif op != 0 then
   some false
 else optC (G_ref8_has (13, 1, T, 0, ())) (none) fun d7 ↦
   bif d7 then
   optC (G_ref8_has (13, 2, X, 0, ())) (none) fun d8 ↦
   bif d8 then
   optC (G_ref8_has (13, 3, Y, 0, ())) (none) fun d9 ↦
   bif d9 then
   optC (G_ref8_has (13, 4, G, 0, ())) (none) fun d10 ↦
   some d10
 else some false
 else some false
 else some false := by kernel_rfl
theorem act_14 (a0 : U) (a1 : C) (T X Y G N op nx el : Int) : g_ref8_act a0 a1 (14, T, X, Y, G, N, op, nx, el) =
  bif N != 0 then
   some false
 else optC (G_ref1_Fits (N, ())) (none) fun d4 ↦
   bif !d4 then
   some false
 else optC (G_ref8_in (nx, (↑(List.length a1.2) : Int), ())) (none) fun d5 ↦
   bif !d5 then
   some false
 else optC (G_ref8_in (el, (↑(List.length a1.2) : Int), ())) (none) fun d6 ↦
   bif !d6 then
   some false
 else bif el != 0 then
   some false
 else bif op != 0 then
   some false
 else optC (G_ref8_has (14, 1, T, 0, ())) (none) fun d7 ↦
   bif d7 then
   optC (G_ref8_has (14, 2, X, 0, ())) (none) fun d8 ↦
   bif d8 then
   optC (G_ref8_has (14, 3, Y, 0, ())) (none) fun d9 ↦
   bif d9 then
   optC (G_ref8_has (14, 4, G, 0, ())) (none) fun d10 ↦
   some d10
 else some false
 else some false
 else some false := by kernel_rfl
theorem act_ok_1 (u : U) (c : C) (T X Y G N op nx el : Int) : ∃ b, g_ref8_act u c (1, T, X, Y, G, N, op, nx, el) = some b ∧ (b = true → actOK u c (1, T, X, Y, G, N, op, nx, el)) := by
  rw [act_1]
  simp only [G_ref1_Fits, n_ref1_Fits, G_ref8_in, n_ref8_in, G_ref8_has, n_ref8_has _ _ _ _ (show (0 : Int) ≤ 1 ∧ (1 : Int) ≤ 14 by decide) (show (1 : Int) ≤ 1 ∧ (1 : Int) ≤ 4 by decide), n_ref8_has _ _ _ _ (show (0 : Int) ≤ 1 ∧ (1 : Int) ≤ 14 by decide) (show (1 : Int) ≤ 2 ∧ (2 : Int) ≤ 4 by decide), n_ref8_has _ _ _ _ (show (0 : Int) ≤ 1 ∧ (1 : Int) ≤ 14 by decide) (show (1 : Int) ≤ 3 ∧ (3 : Int) ≤ 4 by decide), n_ref8_has _ _ _ _ (show (0 : Int) ≤ 1 ∧ (1 : Int) ≤ 14 by decide) (show (1 : Int) ≤ 4 ∧ (4 : Int) ≤ 4 by decide), optC_some, cond_eq_ite]
  (repeat' split) <;> (refine ⟨_, rfl, fun hb => ?_⟩) <;> first | (cases hb; done) | skip
  all_goals (constructor <;> simp_all [inB, hasV, usesB, gBd] <;> omega)
theorem act_ok_2 (u : U) (c : C) (T X Y G N op nx el : Int) : ∃ b, g_ref8_act u c (2, T, X, Y, G, N, op, nx, el) = some b ∧ (b = true → actOK u c (2, T, X, Y, G, N, op, nx, el)) := by
  rw [act_2]
  simp only [G_ref1_Fits, n_ref1_Fits, G_ref8_in, n_ref8_in, G_ref8_has, n_ref8_has _ _ _ _ (show (0 : Int) ≤ 2 ∧ (2 : Int) ≤ 14 by decide) (show (1 : Int) ≤ 1 ∧ (1 : Int) ≤ 4 by decide), n_ref8_has _ _ _ _ (show (0 : Int) ≤ 2 ∧ (2 : Int) ≤ 14 by decide) (show (1 : Int) ≤ 2 ∧ (2 : Int) ≤ 4 by decide), n_ref8_has _ _ _ _ (show (0 : Int) ≤ 2 ∧ (2 : Int) ≤ 14 by decide) (show (1 : Int) ≤ 3 ∧ (3 : Int) ≤ 4 by decide), n_ref8_has _ _ _ _ (show (0 : Int) ≤ 2 ∧ (2 : Int) ≤ 14 by decide) (show (1 : Int) ≤ 4 ∧ (4 : Int) ≤ 4 by decide), optC_some, cond_eq_ite]
  (repeat' split) <;> (refine ⟨_, rfl, fun hb => ?_⟩) <;> first | (cases hb; done) | skip
  all_goals (constructor <;> simp_all [inB, hasV, usesB, gBd] <;> omega)
theorem act_ok_3 (u : U) (c : C) (T X Y G N op nx el : Int) : ∃ b, g_ref8_act u c (3, T, X, Y, G, N, op, nx, el) = some b ∧ (b = true → actOK u c (3, T, X, Y, G, N, op, nx, el)) := by
  rw [act_3]
  simp only [G_ref1_Fits, n_ref1_Fits, G_ref8_in, n_ref8_in, G_ref8_has, n_ref8_has _ _ _ _ (show (0 : Int) ≤ 3 ∧ (3 : Int) ≤ 14 by decide) (show (1 : Int) ≤ 1 ∧ (1 : Int) ≤ 4 by decide), n_ref8_has _ _ _ _ (show (0 : Int) ≤ 3 ∧ (3 : Int) ≤ 14 by decide) (show (1 : Int) ≤ 2 ∧ (2 : Int) ≤ 4 by decide), n_ref8_has _ _ _ _ (show (0 : Int) ≤ 3 ∧ (3 : Int) ≤ 14 by decide) (show (1 : Int) ≤ 3 ∧ (3 : Int) ≤ 4 by decide), n_ref8_has _ _ _ _ (show (0 : Int) ≤ 3 ∧ (3 : Int) ≤ 14 by decide) (show (1 : Int) ≤ 4 ∧ (4 : Int) ≤ 4 by decide), optC_some, cond_eq_ite]
  (repeat' split) <;> (refine ⟨_, rfl, fun hb => ?_⟩) <;> first | (cases hb; done) | skip
  all_goals (constructor <;> simp_all [inB, hasV, usesB, gBd] <;> omega)
theorem act_ok_4 (u : U) (c : C) (T X Y G N op nx el : Int) : ∃ b, g_ref8_act u c (4, T, X, Y, G, N, op, nx, el) = some b ∧ (b = true → actOK u c (4, T, X, Y, G, N, op, nx, el)) := by
  rw [act_4]
  simp only [G_ref1_Fits, n_ref1_Fits, G_ref8_in, n_ref8_in, G_ref8_has, n_ref8_has _ _ _ _ (show (0 : Int) ≤ 4 ∧ (4 : Int) ≤ 14 by decide) (show (1 : Int) ≤ 1 ∧ (1 : Int) ≤ 4 by decide), n_ref8_has _ _ _ _ (show (0 : Int) ≤ 4 ∧ (4 : Int) ≤ 14 by decide) (show (1 : Int) ≤ 2 ∧ (2 : Int) ≤ 4 by decide), n_ref8_has _ _ _ _ (show (0 : Int) ≤ 4 ∧ (4 : Int) ≤ 14 by decide) (show (1 : Int) ≤ 3 ∧ (3 : Int) ≤ 4 by decide), n_ref8_has _ _ _ _ (show (0 : Int) ≤ 4 ∧ (4 : Int) ≤ 14 by decide) (show (1 : Int) ≤ 4 ∧ (4 : Int) ≤ 4 by decide), optC_some, cond_eq_ite]
  (repeat' split) <;> (refine ⟨_, rfl, fun hb => ?_⟩) <;> first | (cases hb; done) | skip
  all_goals (constructor <;> simp_all [inB, hasV, usesB, gBd] <;> omega)
theorem act_ok_5 (u : U) (c : C) (T X Y G N op nx el : Int) : ∃ b, g_ref8_act u c (5, T, X, Y, G, N, op, nx, el) = some b ∧ (b = true → actOK u c (5, T, X, Y, G, N, op, nx, el)) := by
  rw [act_5]
  simp only [G_ref1_Fits, n_ref1_Fits, G_ref8_in, n_ref8_in, G_ref8_has, n_ref8_has _ _ _ _ (show (0 : Int) ≤ 5 ∧ (5 : Int) ≤ 14 by decide) (show (1 : Int) ≤ 1 ∧ (1 : Int) ≤ 4 by decide), n_ref8_has _ _ _ _ (show (0 : Int) ≤ 5 ∧ (5 : Int) ≤ 14 by decide) (show (1 : Int) ≤ 2 ∧ (2 : Int) ≤ 4 by decide), n_ref8_has _ _ _ _ (show (0 : Int) ≤ 5 ∧ (5 : Int) ≤ 14 by decide) (show (1 : Int) ≤ 3 ∧ (3 : Int) ≤ 4 by decide), n_ref8_has _ _ _ _ (show (0 : Int) ≤ 5 ∧ (5 : Int) ≤ 14 by decide) (show (1 : Int) ≤ 4 ∧ (4 : Int) ≤ 4 by decide), optC_some, cond_eq_ite]
  (repeat' split) <;> (refine ⟨_, rfl, fun hb => ?_⟩) <;> first | (cases hb; done) | skip
  all_goals (constructor <;> simp_all [inB, hasV, usesB, gBd] <;> omega)
theorem act_ok_6 (u : U) (c : C) (T X Y G N op nx el : Int) : ∃ b, g_ref8_act u c (6, T, X, Y, G, N, op, nx, el) = some b ∧ (b = true → actOK u c (6, T, X, Y, G, N, op, nx, el)) := by
  rw [act_6]
  simp only [G_ref1_Fits, n_ref1_Fits, G_ref8_in, n_ref8_in, G_ref8_has, n_ref8_has _ _ _ _ (show (0 : Int) ≤ 6 ∧ (6 : Int) ≤ 14 by decide) (show (1 : Int) ≤ 1 ∧ (1 : Int) ≤ 4 by decide), n_ref8_has _ _ _ _ (show (0 : Int) ≤ 6 ∧ (6 : Int) ≤ 14 by decide) (show (1 : Int) ≤ 2 ∧ (2 : Int) ≤ 4 by decide), n_ref8_has _ _ _ _ (show (0 : Int) ≤ 6 ∧ (6 : Int) ≤ 14 by decide) (show (1 : Int) ≤ 3 ∧ (3 : Int) ≤ 4 by decide), n_ref8_has _ _ _ _ (show (0 : Int) ≤ 6 ∧ (6 : Int) ≤ 14 by decide) (show (1 : Int) ≤ 4 ∧ (4 : Int) ≤ 4 by decide), optC_some, cond_eq_ite]
  (repeat' split) <;> (refine ⟨_, rfl, fun hb => ?_⟩) <;> first | (cases hb; done) | skip
  all_goals (constructor <;> simp_all [inB, hasV, usesB, gBd] <;> omega)
theorem act_ok_7 (u : U) (c : C) (T X Y G N op nx el : Int) : ∃ b, g_ref8_act u c (7, T, X, Y, G, N, op, nx, el) = some b ∧ (b = true → actOK u c (7, T, X, Y, G, N, op, nx, el)) := by
  rw [act_7]
  simp only [G_ref1_Fits, n_ref1_Fits, G_ref8_in, n_ref8_in, G_ref8_has, n_ref8_has _ _ _ _ (show (0 : Int) ≤ 7 ∧ (7 : Int) ≤ 14 by decide) (show (1 : Int) ≤ 1 ∧ (1 : Int) ≤ 4 by decide), n_ref8_has _ _ _ _ (show (0 : Int) ≤ 7 ∧ (7 : Int) ≤ 14 by decide) (show (1 : Int) ≤ 2 ∧ (2 : Int) ≤ 4 by decide), n_ref8_has _ _ _ _ (show (0 : Int) ≤ 7 ∧ (7 : Int) ≤ 14 by decide) (show (1 : Int) ≤ 3 ∧ (3 : Int) ≤ 4 by decide), n_ref8_has _ _ _ _ (show (0 : Int) ≤ 7 ∧ (7 : Int) ≤ 14 by decide) (show (1 : Int) ≤ 4 ∧ (4 : Int) ≤ 4 by decide), optC_some, cond_eq_ite]
  (repeat' split) <;> (refine ⟨_, rfl, fun hb => ?_⟩) <;> first | (cases hb; done) | skip
  all_goals (constructor <;> simp_all [inB, hasV, usesB, gBd] <;> omega)
theorem act_ok_8 (u : U) (c : C) (T X Y G N op nx el : Int) : ∃ b, g_ref8_act u c (8, T, X, Y, G, N, op, nx, el) = some b ∧ (b = true → actOK u c (8, T, X, Y, G, N, op, nx, el)) := by
  rw [act_8]
  simp only [G_ref1_Fits, n_ref1_Fits, G_ref8_in, n_ref8_in, G_ref8_has, n_ref8_has _ _ _ _ (show (0 : Int) ≤ 8 ∧ (8 : Int) ≤ 14 by decide) (show (1 : Int) ≤ 1 ∧ (1 : Int) ≤ 4 by decide), n_ref8_has _ _ _ _ (show (0 : Int) ≤ 8 ∧ (8 : Int) ≤ 14 by decide) (show (1 : Int) ≤ 2 ∧ (2 : Int) ≤ 4 by decide), n_ref8_has _ _ _ _ (show (0 : Int) ≤ 8 ∧ (8 : Int) ≤ 14 by decide) (show (1 : Int) ≤ 3 ∧ (3 : Int) ≤ 4 by decide), n_ref8_has _ _ _ _ (show (0 : Int) ≤ 8 ∧ (8 : Int) ≤ 14 by decide) (show (1 : Int) ≤ 4 ∧ (4 : Int) ≤ 4 by decide), optC_some, cond_eq_ite]
  (repeat' split) <;> (refine ⟨_, rfl, fun hb => ?_⟩) <;> first | (cases hb; done) | skip
  all_goals (constructor <;> simp_all [inB, hasV, usesB, gBd] <;> omega)
theorem act_ok_9 (u : U) (c : C) (T X Y G N op nx el : Int) : ∃ b, g_ref8_act u c (9, T, X, Y, G, N, op, nx, el) = some b ∧ (b = true → actOK u c (9, T, X, Y, G, N, op, nx, el)) := by
  rw [act_9]
  simp only [G_ref1_Fits, n_ref1_Fits, G_ref8_in, n_ref8_in, G_ref8_has, n_ref8_has _ _ _ _ (show (0 : Int) ≤ 9 ∧ (9 : Int) ≤ 14 by decide) (show (1 : Int) ≤ 1 ∧ (1 : Int) ≤ 4 by decide), n_ref8_has _ _ _ _ (show (0 : Int) ≤ 9 ∧ (9 : Int) ≤ 14 by decide) (show (1 : Int) ≤ 2 ∧ (2 : Int) ≤ 4 by decide), n_ref8_has _ _ _ _ (show (0 : Int) ≤ 9 ∧ (9 : Int) ≤ 14 by decide) (show (1 : Int) ≤ 3 ∧ (3 : Int) ≤ 4 by decide), n_ref8_has _ _ _ _ (show (0 : Int) ≤ 9 ∧ (9 : Int) ≤ 14 by decide) (show (1 : Int) ≤ 4 ∧ (4 : Int) ≤ 4 by decide), optC_some, cond_eq_ite]
  (repeat' split) <;> (refine ⟨_, rfl, fun hb => ?_⟩) <;> first | (cases hb; done) | skip
  all_goals (constructor <;> simp_all [inB, hasV, usesB, gBd] <;> omega)
theorem act_ok_10 (u : U) (c : C) (T X Y G N op nx el : Int) : ∃ b, g_ref8_act u c (10, T, X, Y, G, N, op, nx, el) = some b ∧ (b = true → actOK u c (10, T, X, Y, G, N, op, nx, el)) := by
  rw [act_10]
  simp only [G_ref1_Fits, n_ref1_Fits, G_ref8_in, n_ref8_in, G_ref8_has, n_ref8_has _ _ _ _ (show (0 : Int) ≤ 10 ∧ (10 : Int) ≤ 14 by decide) (show (1 : Int) ≤ 1 ∧ (1 : Int) ≤ 4 by decide), n_ref8_has _ _ _ _ (show (0 : Int) ≤ 10 ∧ (10 : Int) ≤ 14 by decide) (show (1 : Int) ≤ 2 ∧ (2 : Int) ≤ 4 by decide), n_ref8_has _ _ _ _ (show (0 : Int) ≤ 10 ∧ (10 : Int) ≤ 14 by decide) (show (1 : Int) ≤ 3 ∧ (3 : Int) ≤ 4 by decide), n_ref8_has _ _ _ _ (show (0 : Int) ≤ 10 ∧ (10 : Int) ≤ 14 by decide) (show (1 : Int) ≤ 4 ∧ (4 : Int) ≤ 4 by decide), optC_some, cond_eq_ite]
  (repeat' split) <;> (refine ⟨_, rfl, fun hb => ?_⟩) <;> first | (cases hb; done) | skip
  all_goals (constructor <;> simp_all [inB, hasV, usesB, gBd] <;> omega)
theorem act_ok_11 (u : U) (c : C) (T X Y G N op nx el : Int) : ∃ b, g_ref8_act u c (11, T, X, Y, G, N, op, nx, el) = some b ∧ (b = true → actOK u c (11, T, X, Y, G, N, op, nx, el)) := by
  rw [act_11]
  simp only [G_ref1_Fits, n_ref1_Fits, G_ref8_in, n_ref8_in, G_ref8_has, n_ref8_has _ _ _ _ (show (0 : Int) ≤ 11 ∧ (11 : Int) ≤ 14 by decide) (show (1 : Int) ≤ 1 ∧ (1 : Int) ≤ 4 by decide), n_ref8_has _ _ _ _ (show (0 : Int) ≤ 11 ∧ (11 : Int) ≤ 14 by decide) (show (1 : Int) ≤ 2 ∧ (2 : Int) ≤ 4 by decide), n_ref8_has _ _ _ _ (show (0 : Int) ≤ 11 ∧ (11 : Int) ≤ 14 by decide) (show (1 : Int) ≤ 3 ∧ (3 : Int) ≤ 4 by decide), n_ref8_has _ _ _ _ (show (0 : Int) ≤ 11 ∧ (11 : Int) ≤ 14 by decide) (show (1 : Int) ≤ 4 ∧ (4 : Int) ≤ 4 by decide), optC_some, cond_eq_ite]
  (repeat' split) <;> (refine ⟨_, rfl, fun hb => ?_⟩) <;> first | (cases hb; done) | skip
  all_goals (constructor <;> simp_all [inB, hasV, usesB, gBd] <;> omega)
theorem act_ok_12 (u : U) (c : C) (T X Y G N op nx el : Int) : ∃ b, g_ref8_act u c (12, T, X, Y, G, N, op, nx, el) = some b ∧ (b = true → actOK u c (12, T, X, Y, G, N, op, nx, el)) := by
  rw [act_12]
  simp only [G_ref1_Fits, n_ref1_Fits, G_ref8_in, n_ref8_in, G_ref8_has, n_ref8_has _ _ _ _ (show (0 : Int) ≤ 12 ∧ (12 : Int) ≤ 14 by decide) (show (1 : Int) ≤ 1 ∧ (1 : Int) ≤ 4 by decide), n_ref8_has _ _ _ _ (show (0 : Int) ≤ 12 ∧ (12 : Int) ≤ 14 by decide) (show (1 : Int) ≤ 2 ∧ (2 : Int) ≤ 4 by decide), n_ref8_has _ _ _ _ (show (0 : Int) ≤ 12 ∧ (12 : Int) ≤ 14 by decide) (show (1 : Int) ≤ 3 ∧ (3 : Int) ≤ 4 by decide), n_ref8_has _ _ _ _ (show (0 : Int) ≤ 12 ∧ (12 : Int) ≤ 14 by decide) (show (1 : Int) ≤ 4 ∧ (4 : Int) ≤ 4 by decide), optC_some, cond_eq_ite]
  (repeat' split) <;> (refine ⟨_, rfl, fun hb => ?_⟩) <;> first | (cases hb; done) | skip
  all_goals (constructor <;> simp_all [inB, hasV, usesB, gBd] <;> omega)
theorem act_ok_13 (u : U) (c : C) (T X Y G N op nx el : Int) : ∃ b, g_ref8_act u c (13, T, X, Y, G, N, op, nx, el) = some b ∧ (b = true → actOK u c (13, T, X, Y, G, N, op, nx, el)) := by
  rw [act_13]
  simp only [G_ref1_Fits, n_ref1_Fits, G_ref8_in, n_ref8_in, G_ref8_has, n_ref8_has _ _ _ _ (show (0 : Int) ≤ 13 ∧ (13 : Int) ≤ 14 by decide) (show (1 : Int) ≤ 1 ∧ (1 : Int) ≤ 4 by decide), n_ref8_has _ _ _ _ (show (0 : Int) ≤ 13 ∧ (13 : Int) ≤ 14 by decide) (show (1 : Int) ≤ 2 ∧ (2 : Int) ≤ 4 by decide), n_ref8_has _ _ _ _ (show (0 : Int) ≤ 13 ∧ (13 : Int) ≤ 14 by decide) (show (1 : Int) ≤ 3 ∧ (3 : Int) ≤ 4 by decide), n_ref8_has _ _ _ _ (show (0 : Int) ≤ 13 ∧ (13 : Int) ≤ 14 by decide) (show (1 : Int) ≤ 4 ∧ (4 : Int) ≤ 4 by decide), optC_some, cond_eq_ite]
  (repeat' split) <;> (refine ⟨_, rfl, fun hb => ?_⟩) <;> first | (cases hb; done) | skip
  all_goals (constructor <;> simp_all [inB, hasV, usesB, gBd] <;> omega)
theorem act_ok_14 (u : U) (c : C) (T X Y G N op nx el : Int) : ∃ b, g_ref8_act u c (14, T, X, Y, G, N, op, nx, el) = some b ∧ (b = true → actOK u c (14, T, X, Y, G, N, op, nx, el)) := by
  rw [act_14]
  simp only [G_ref1_Fits, n_ref1_Fits, G_ref8_in, n_ref8_in, G_ref8_has, n_ref8_has _ _ _ _ (show (0 : Int) ≤ 14 ∧ (14 : Int) ≤ 14 by decide) (show (1 : Int) ≤ 1 ∧ (1 : Int) ≤ 4 by decide), n_ref8_has _ _ _ _ (show (0 : Int) ≤ 14 ∧ (14 : Int) ≤ 14 by decide) (show (1 : Int) ≤ 2 ∧ (2 : Int) ≤ 4 by decide), n_ref8_has _ _ _ _ (show (0 : Int) ≤ 14 ∧ (14 : Int) ≤ 14 by decide) (show (1 : Int) ≤ 3 ∧ (3 : Int) ≤ 4 by decide), n_ref8_has _ _ _ _ (show (0 : Int) ≤ 14 ∧ (14 : Int) ≤ 14 by decide) (show (1 : Int) ≤ 4 ∧ (4 : Int) ≤ 4 by decide), optC_some, cond_eq_ite]
  (repeat' split) <;> (refine ⟨_, rfl, fun hb => ?_⟩) <;> first | (cases hb; done) | skip
  all_goals (constructor <;> simp_all [inB, hasV, usesB, gBd] <;> omega)
theorem act_no (u : U) (c : C) (a : A) (h : ¬ (1 ≤ a.1 ∧ a.1 ≤ 14)) : g_ref8_act u c a = some false := by
  unfold g_ref8_act
  have f : ∀ k : Int, 1 ≤ k → k ≤ 14 → (a.1 == k) = false := fun k h1 h2 => by
    rw [beq_eq_false_iff_ne]; omega
  simp only [f 1 (by decide) (by decide), f 2 (by decide) (by decide), f 3 (by decide) (by decide), f 4 (by decide) (by decide), f 5 (by decide) (by decide), f 6 (by decide) (by decide), f 7 (by decide) (by decide), f 8 (by decide) (by decide), f 9 (by decide) (by decide), f 10 (by decide) (by decide), f 11 (by decide) (by decide), f 12 (by decide) (by decide), f 13 (by decide) (by decide), f 14 (by decide) (by decide), cond_false]
theorem n_ref8_act (u : U) (c : C) (a : A) : ∃ b, g_ref8_act u c a = some b ∧ (b = true → actOK u c a) := by
  by_cases h : 1 ≤ a.1 ∧ a.1 ≤ 14
  · obtain ⟨k, T, X, Y, G, N, op, nx, el⟩ := a
    have h1 : k = 1 ∨ k = 2 ∨ k = 3 ∨ k = 4 ∨ k = 5 ∨ k = 6 ∨ k = 7 ∨ k = 8 ∨ k = 9 ∨ k = 10 ∨ k = 11 ∨ k = 12 ∨ k = 13 ∨ k = 14 := by simp only at h; omega
    rcases h1 with rfl | rfl | rfl | rfl | rfl | rfl | rfl | rfl | rfl | rfl | rfl | rfl | rfl | rfl
    · exact act_ok_1 ..
    · exact act_ok_2 ..
    · exact act_ok_3 ..
    · exact act_ok_4 ..
    · exact act_ok_5 ..
    · exact act_ok_6 ..
    · exact act_ok_7 ..
    · exact act_ok_8 ..
    · exact act_ok_9 ..
    · exact act_ok_10 ..
    · exact act_ok_11 ..
    · exact act_ok_12 ..
    · exact act_ok_13 ..
    · exact act_ok_14 ..
  · exact ⟨false, act_no u c a h, fun k => nomatch k⟩
end Go.Proofs.YtmjbedjnojcmfaaGreatDoor.Ex

namespace Go.Proofs.YtmjbedjnojcmfaaGreatDoor.Ex
set_option maxRecDepth 100000
set_option linter.unusedVariables false
set_option linter.unusedSimpArgs false
theorem rangeO_ask {α Y : Type} {f : Nat → Unit → α → Option (Unit ⊕ Y)} {fin : Unit → Option Y} {p : Nat → α → Bool} {o : Y} : ∀ (l : List α) (i : Nat), (∀ j d, l[j]? = some d → f (i + j) () d = bif p (i + j) d then some (.inl ()) else some (.inr o)) →
    rangeO f fin i l () = bif allIx p i l then fin () else some o
  | [], i, _ => rfl
  | d :: r, i, h => by
    have k := rangeO_ask (fin := fin) r (i + 1) fun j d hd => by
      have := h (j + 1) d hd
      rwa [show i + (j + 1) = i + 1 + j by omega] at this
    have h0 := h 0 d rfl
    rw [Nat.add_zero] at h0
    simp only [rangeO, allIx, h0]
    cases p i d
    · rfl
    · exact k
theorem allIx_iff {α : Type} {p : Nat → α → Bool} : ∀ {l : List α} {i : Nat}, allIx p i l = true ↔ ∀ j d, l[j]? = some d → p (i + j) d = true
  | [], i => by simp [allIx]
  | d :: r, i => by
    rw [allIx, Bool.and_eq_true, allIx_iff]
    constructor
    · rintro ⟨h, k⟩ j e hj
      cases j with
      | zero => cases hj; exact h
      | succ j => have := k j e hj; rwa [show i + 1 + j = i + (j + 1) by omega] at this
    · intro k
      refine ⟨by have := k 0 d rfl; rwa [Nat.add_zero] at this, fun j e hj => ?_⟩
      have := k (j + 1) e hj
      rwa [show i + (j + 1) = i + 1 + j by omega] at this
noncomputable def actB (u : U) (c : C) (a : A) : Bool := (g_ref8_act u c a).getD false
theorem actB_eq (u : U) (c : C) (a : A) : g_ref8_act u c a = some (actB u c a) := by
  obtain ⟨b, h, _⟩ := n_ref8_act u c a
  unfold actB
  rw [h]; rfl
noncomputable def codeB (u : U) (c : C) : Bool := inB c.1 41 && !decide ((c.2.length : Int) < 1) && !decide ((c.2.length : Int) > 60) && (c.2[c.2.length - 1]?).elim false (fun a => a.1 == 14) && allIx (fun _ a => actB u c a) 0 c.2
theorem l6 (s5 : Int) (u : U) (c : C) (hl : c.2.length < 9223372036854775807) : L_ref8_Is_27_6_0 (s5, (c.2.length : Int), 0, u.1, u.2.1, u.2.2.1, u.2.2.2, c.1, c.2) =
    bif allIx (fun _ a => actB u c a) 0 c.2 then some (.inl (s5, u.1, u.2.1, u.2.2.1, u.2.2.2)) else some (.inr (false, s5, u.1, u.2.1, u.2.2.1, u.2.2.2)) := by
  rw [rg_ref8_Is_27_6_0 s5 u.1 u.2.1 u.2.2.1 u.2.2.2 c.1 c.2 () hl]
  unfold rv_ref8_Is_27_6_0
  rw [rangeO_ask (p := fun _ a => actB u c a) (o := .inr (false, s5, u.1, u.2.1, u.2.2.1, u.2.2.2)) c.2 0 fun j d hd => ?_]
  · rfl
  · unfold bd_ref8_Is_27_6_0 G_ref8_act
    simp only [actB_eq, optC_some]
    cases actB u c d <;> rfl
theorem l4 (u : U) (hl : ∀ c ∈ u.2.2.2, c.2.length < 9223372036854775807) (hn : u.2.2.2.length < 9223372036854775807) : L_ref8_Is_27_4_0 (0, u.1, u.2.1, u.2.2.1, u.2.2.2) = bif allIx (fun _ c => codeB u c) 0 u.2.2.2 then some (.inl ()) else some (.inr false) := by
  unfold L_ref8_Is_27_4_0
  refine (iterO_range0 u.2.2.2 (fun i (_ : Unit) => (((i : Int), u.1, u.2.1, u.2.2.1, u.2.2.2) : Int × List Int × List Int × Int × List C)) (fun i _ c => bif codeB u c then some (.inl ()) else some (.inr (.inr false))) (fun _ => some (.inl ())) ?_ ?_ () (by unfold FUEL; omega)).trans ?_
  · intro i s d hi hd
    have hm := hl d (List.mem_of_getElem? hd)
    have e1 : decide ((i : Int) < (u.2.2.2.length : Int)) = true := decide_eq_true (by omega)
    have e2 : decide (0 ≤ (i : Int)) = true := decide_eq_true (by omega)
    have e3 : Int.toNat (i : Int) = i := Int.toNat_natCast i
    have e4 := wrap_next hi (Nat.le_of_lt hn)
    show st_ref8_Is_27_4_0 (i : Int) u.1 u.2.1 u.2.2.1 u.2.2.2 = upd _ (bif codeB u d then some (.inl ()) else some (.inr (.inr false)))
    unfold st_ref8_Is_27_4_0 G_ref8_in
    simp only [e1, e2, e3, hd, cond_true, optC_some, n_ref8_in]
    have q := l6 (i : Int) u d hm
    unfold codeB
    cases inB d.1 41
    · rfl
    by_cases h1 : (d.2.length : Int) < 1
    · rw [decide_eq_true h1]; rfl
    by_cases h2 : (d.2.length : Int) > 60
    · rw [decide_eq_false h1, decide_eq_true h2]; rfl
    rw [decide_eq_false h1, decide_eq_false h2]
    have e5 : IntKind.i64.wrap ((d.2.length : Int) - 1) = ((d.2.length - 1 : Nat) : Int) := by rw [wrap_fits (by omega) (by omega)]; omega
    rw [e5]
    have e6 : decide (0 ≤ ((d.2.length - 1 : Nat) : Int)) = true := decide_eq_true (by omega)
    rw [e6, Int.toNat_natCast]
    obtain ⟨a, ha⟩ : ∃ a, d.2[d.2.length - 1]? = some a := ⟨d.2[d.2.length - 1]'(by omega), List.getElem?_eq_getElem _⟩
    simp only [cond_true, cond_false, Bool.not_true, Bool.not_false, Bool.true_and, ha, optC_some, Option.elim_some]
    cases h3 : a.1 == 14
    · rw [show (a.1 != 14) = true by simp [bne, h3]]; rfl
    · rw [show (a.1 != 14) = false by simp [bne, h3]]
      simp only [cond_false, Bool.true_and]
      have q2 : L_ref8_Is_27_6_0 ((i : Int), (d.2.length : Int), 0, u.1, u.2.1, u.2.2.1, u.2.2.2, d) = _ := q
      rw [q2]
      cases allIx (fun _ a => actB u d a) 0 d.2
      · rfl
      · simp only [cond_true, optC_some, Sum.elim_inl, e4]; rfl
  · intro s
    show st_ref8_Is_27_4_0 (u.2.2.2.length : Int) u.1 u.2.1 u.2.2.1 u.2.2.2 = _
    unfold st_ref8_Is_27_4_0
    rw [show decide ((u.2.2.2.length : Int) < (u.2.2.2.length : Int)) = false from decide_eq_false (by omega)]
    rfl
  · rw [rangeO_ask (p := fun _ c => codeB u c) (o := .inr false) u.2.2.2 0 fun j d hd => rfl]
theorem l0 (u : U) (hn : u.1.length < 9223372036854775807) : L_ref8_Is_27_0_0 (0, u) = bif u.1.all fitB then some (.inl u) else some (.inr (false, u)) := by
  have := rg_ref8_Is_27_0_0 u.2.1 u.2.2.1 u.2.2.2 u.1 () hn
  refine this.trans ?_
  unfold rv_ref8_Is_27_0_0
  rw [rangeO_ask (p := fun _ a => fitB a) (o := .inr (false, u.1, u.2.1, u.2.2.1, u.2.2.2)) u.1 0 fun j d hd => ?_, allIx_all]
  · rfl
  · unfold bd_ref8_Is_27_0_0 G_ref1_Fits
    simp only [n_ref1_Fits, optC_some]
    cases fitB d <;> rfl
theorem l2 (u : U) (hn : u.2.1.length < 9223372036854775807) : L_ref8_Is_27_2_0 (0, u) = bif u.2.1.all (fun n => !decide (n < 1) && !decide (n > 16)) then some (.inl u) else some (.inr (false, u)) := by
  have := rg_ref8_Is_27_2_0 u.1 u.2.2.1 u.2.2.2 u.2.1 () hn
  refine this.trans ?_
  unfold rv_ref8_Is_27_2_0
  rw [rangeO_ask (p := fun _ n => !decide (n < 1) && !decide (n > 16)) (o := .inr (false, u.1, u.2.1, u.2.2.1, u.2.2.2)) u.2.1 0 fun j d hd => ?_, allIx_all]
  · rfl
  · unfold bd_ref8_Is_27_2_0
    cases decide (d < 1)
    · cases decide (d > 16) <;> rfl
    · rfl
structure codeOK (u : U) (c : C) : Prop where
  v : 0 ≤ c.1 ∧ c.1 ≤ 40
  n : 1 ≤ c.2.length ∧ c.2.length ≤ 60
  e : ∃ a, c.2[c.2.length - 1]? = some a ∧ a.1 = 14
  a : ∀ a ∈ c.2, actOK u c a
structure unitOK (u : U) : Prop where
  g : u.1.length ≤ 6
  a : u.2.1.length ≤ 3
  m : 0 ≤ u.2.2.1 ∧ u.2.2.1 ≤ 6
  t : 1 ≤ u.2.2.2.length ∧ u.2.2.2.length ≤ 4
  gs : ∀ n ∈ u.1, fitB n = true
  ars : ∀ n ∈ u.2.1, 1 ≤ n ∧ n ≤ 16
  ts : ∀ c ∈ u.2.2.2, codeOK u c
def sizeU (u : U) : Prop := u.1.length < 9223372036854775807 ∧ u.2.1.length < 9223372036854775807 ∧ u.2.2.2.length < 9223372036854775807 ∧ ∀ c ∈ u.2.2.2, c.2.length < 9223372036854775807
end Go.Proofs.YtmjbedjnojcmfaaGreatDoor.Ex

namespace Go.Proofs.YtmjbedjnojcmfaaGreatDoor.Ex
open Go.Proofs Go.Proofs.YtmjbedjnojcmfaaGreatDoor
set_option maxRecDepth 100000
set_option maxHeartbeats 2000000
set_option linter.unusedVariables false
set_option linter.unusedSimpArgs false
def ash_num_Fits : List Sh := [.dat (.sl (.int .i64))]
def kp_num_Fits_55_0 : Nat → List Nat := fun c => bif c.beq 0 then [5, 6, 7] else [2]
noncomputable def sp_num_Fits : List Con := []
def s_num_Fits_55_0_0 : StS := ⟨[(5, .sl (.int .i64)), (6, .int .i64), (7, .int .i64)], [], 0⟩
def x_num_Fits_55_0_0_0 : StS := ⟨[(2, .undef)], [], 0⟩
def x_num_Fits_55_0_0_1 : StS := ⟨[(2, .bool)], [], 0⟩
abbrev X_num_Fits_55_0_0 := ((List Int) × Int × Int)
def fl_num_Fits_55_0_0 (d : StD s_num_Fits_55_0_0) : X_num_Fits_55_0_0 := (d.1.1, d.1.2.1, d.1.2.2.1)
def un_num_Fits_55_0_0 (x : X_num_Fits_55_0_0) : StD s_num_Fits_55_0_0 := ((x.1, x.2.1, x.2.2, ()), ())
abbrev X_num_Fits_55_0_0_0 := Unit
def fl_num_Fits_55_0_0_0 (d : StD x_num_Fits_55_0_0_0) : X_num_Fits_55_0_0_0 := ()
def un_num_Fits_55_0_0_0 (x : X_num_Fits_55_0_0_0) : StD x_num_Fits_55_0_0_0 := (((), ()), ())
abbrev X_num_Fits_55_0_0_1 := Bool
def fl_num_Fits_55_0_0_1 (d : StD x_num_Fits_55_0_0_1) : X_num_Fits_55_0_0_1 := (d.1.1)
def un_num_Fits_55_0_0_1 (x : X_num_Fits_55_0_0_1) : StD x_num_Fits_55_0_0_1 := ((x, ()), ())
noncomputable def st_num_Fits_55_0_0 (s5 : (List Int)) (s6 : Int) (s7 : Int) : Option (((List Int) × Int × Int) ⊕ (Unit ⊕ Bool)) :=
  bif decide (s7 < s6) then
 bif decide (0 ≤ s7) then
 optC s5[s7.toNat]? none fun d5 ↦
 bif decide (d5 < -2147483648) then some (Sum.inr (Sum.inr false))
 else bif decide (d5 > 2147483647) then some (Sum.inr (Sum.inr false)) else some (Sum.inl (s5, s6, Go.IntKind.i64.wrap (s7 + 1)))
 else none
 else some (Sum.inr (Sum.inl PUnit.unit))
noncomputable def sx_num_Fits_55_0_0 (x : X_num_Fits_55_0_0) : Option (X_num_Fits_55_0_0 ⊕ (X_num_Fits_55_0_0_0 ⊕ X_num_Fits_55_0_0_1)) := st_num_Fits_55_0_0 x.1 x.2.1 x.2.2
theorem rn_num_Fits_55_0_0 (x : X_num_Fits_55_0_0) : rdX (cxU sp_num_Fits [] 40 1048576) keeps 8 ⟨55, 18, keeps 55, 0⟩ 0 (bodyX 55 0) 0 kp_num_Fits_55_0 (sT s_num_Fits_55_0_0 (un_num_Fits_55_0_0 x)) (sH s_num_Fits_55_0_0 (un_num_Fits_55_0_0 x)) (rdO (fun T h => (rdS s_num_Fits_55_0_0 T h).map fl_num_Fits_55_0_0) (getOr (getE 2 x_num_Fits_55_0_0_0 fl_num_Fits_55_0_0_0) (getE 1 x_num_Fits_55_0_0_1 fl_num_Fits_55_0_0_1))) = sx_num_Fits_55_0_0 x := by kernel_rfl
noncomputable def L_num_Fits_55_0_0 (x : X_num_Fits_55_0_0) : Option (X_num_Fits_55_0_0_0 ⊕ X_num_Fits_55_0_0_1) := iterO (fun x => st_num_Fits_55_0_0 x.1 x.2.1 x.2.2) FUEL x
noncomputable def q_num_Fits_55_0 : Nat → Tm → Prog (Nat × Tm) := (varP 0 (fun T h => (rdS s_num_Fits_55_0_0 T h).map fl_num_Fits_55_0_0) L_num_Fits_55_0_0 (fun y => .alt y (altE 2 x_num_Fits_55_0_0_0 un_num_Fits_55_0_0_0) (altE 1 x_num_Fits_55_0_0_1 un_num_Fits_55_0_0_1)) (fun _ _ => .fail))
noncomputable def lc_num_Fits_55_0 : Lpc := ⟨55, 0, 18, (fun base T => .norm base (kp_num_Fits_55_0 0) T (q_num_Fits_55_0 base)), by kernel_rfl, by kernel_rfl, (loopU sp_num_Fits [] 40 1048576 8 (keep := kp_num_Fits_55_0) (q := q_num_Fits_55_0) (by kernel_rfl) (varX_ok (s := s_num_Fits_55_0_0) (un := un_num_Fits_55_0_0) (by rfl) (fun _ => rfl) (getOr_ok (getE_ok (s := x_num_Fits_55_0_0_0) (un := un_num_Fits_55_0_0_0) (by rfl) (fun _ => rfl)) (getE_ok (s := x_num_Fits_55_0_0_1) (un := un_num_Fits_55_0_0_1) (by rfl) (fun _ => rfl))) (step := sx_num_Fits_55_0_0) rn_num_Fits_55_0_0 (fun _ _ e => ⟨_, e⟩) (altOr_ok (altE_ok 2 x_num_Fits_55_0_0_0 un_num_Fits_55_0_0_0) (altE_ok 1 x_num_Fits_55_0_0_1 un_num_Fits_55_0_0_1)) (VarOk.fail _ _)))⟩
noncomputable def g_num_Fits (a0 : (List Int)) : Option Bool :=
  optC (L_num_Fits_55_0_0 (a0, (↑a0.length : Int), 0)) none fun d3 ↦ Sum.elim (fun e4 ↦ some true) (fun e4 ↦ some e4) d3
theorem raw_num_Fits (a0 : (List Int)) : evGX (cxU sp_num_Fits [lc_num_Fits_55_0] 40 1048576) keeps 8 55 ash_num_Fits (.dat .bool) ((a0, ()) : ((List Int) × Unit)) = g_num_Fits a0 := by kernel_rfl
noncomputable def G_num_Fits (x : ((List Int) × Unit)) : Option Bool := g_num_Fits x.1
noncomputable def con_num_Fits : List AV → Prog AV := conP true ash_num_Fits (.dat .bool) G_num_Fits
theorem snd_num_Fits : SoundA Tryz.prog 55 con_num_Fits := conP_sound (calU sp_num_Fits [lc_num_Fits_55_0] 40 1048576 8 55) true (by rfl) (by rfl) (fun x r e => (evGX_eq _ _ _ _ _ _ _).trans ((raw_num_Fits x.1).trans e)) (.inl rfl)
end Go.Proofs.YtmjbedjnojcmfaaGreatDoor.Ex

namespace Go.Proofs.YtmjbedjnojcmfaaGreatDoor.Ex
set_option maxRecDepth 100000
set_option maxHeartbeats 2000000
set_option linter.unusedVariables false
set_option linter.unusedSimpArgs false
noncomputable def bd_num_Fits_55_0_0  (s5 : (List Int)) (i : Nat)  (d : Int) : Option (Unit ⊕ (X_num_Fits_55_0_0_0 ⊕ X_num_Fits_55_0_0_1)) :=
  bif decide (d < -2147483648) then
   some (Sum.inr (Sum.inr false))
 else bif decide (d > 2147483647) then
   some (Sum.inr (Sum.inr false))
 else some (Sum.inl ())
noncomputable def fn_num_Fits_55_0_0  (s5 : (List Int))  : Option (X_num_Fits_55_0_0_0 ⊕ X_num_Fits_55_0_0_1) :=
  some (Sum.inl PUnit.unit)
noncomputable abbrev rx_num_Fits_55_0_0  (s5 : (List Int)) (i : Nat) (s : Unit) : X_num_Fits_55_0_0 := (s5, (s5.length : Int), (i : Int))
noncomputable def rv_num_Fits_55_0_0  (s5 : (List Int)) (s : Unit) : Option (X_num_Fits_55_0_0_0 ⊕ X_num_Fits_55_0_0_1) := rangeO (fun i s d => bd_num_Fits_55_0_0  s5 i  d) (fun s => fn_num_Fits_55_0_0  s5 ) 0 s5 s
theorem rg_num_Fits_55_0_0  (s5 : (List Int)) (s : Unit) (hl : s5.length < 9223372036854775807) : L_num_Fits_55_0_0 (s5, (s5.length : Int), 0) = rv_num_Fits_55_0_0  s5 s := by
  unfold L_num_Fits_55_0_0 rv_num_Fits_55_0_0
  refine iterO_range0 s5 (rx_num_Fits_55_0_0  s5) _ _ ?_ ?_ s (by unfold FUEL; omega)
  · intro i s d hi hd
    have e1 : decide ((i : Int) < (s5.length : Int)) = true := decide_eq_true (by omega)
    have e2 : decide (0 ≤ (i : Int)) = true := decide_eq_true (by omega)
    have e3 : Int.toNat (i : Int) = i := Int.toNat_natCast i
    have e4 := wrap_next hi (Nat.le_of_lt hl)
    show st_num_Fits_55_0_0 (s5) ((s5.length : Int)) ((i : Int)) = upd _ (bd_num_Fits_55_0_0  s5 i  d)
    unfold st_num_Fits_55_0_0 bd_num_Fits_55_0_0
    simp only [e1, e2, e3, e4, hd, cond_true, cond_false, optC_some, upd_cond, upd_optC, upd_elim, upd_inl, upd_inr, upd_none]
  · intro s
    have e1 : decide ((s5.length : Int) < (s5.length : Int)) = false := decide_eq_false (by omega)
    show st_num_Fits_55_0_0 (s5) ((s5.length : Int)) ((s5.length : Int)) = _
    unfold st_num_Fits_55_0_0 fn_num_Fits_55_0_0
    rw [e1]
    rfl
end Go.Proofs.YtmjbedjnojcmfaaGreatDoor.Ex

namespace Go.Proofs.YtmjbedjnojcmfaaGreatDoor.Ex
open Go.Proofs Go.Proofs.YtmjbedjnojcmfaaGreatDoor
set_option maxRecDepth 100000
set_option maxHeartbeats 2000000
set_option linter.unusedVariables false
set_option linter.unusedSimpArgs false
def ash_cfg_isIn : List Sh := [.dat (.int .i64), .dat (.int .i64), .dat (.int .i64)]
noncomputable def sp_cfg_isIn : List Con := []
noncomputable def g_cfg_isIn (a0 : Int) (a1 : Int) (a2 : Int) : Option Bool :=
  bif decide (a0 ≥ a1) then some (decide (a0 ≤ a2)) else some false
theorem raw_cfg_isIn (a0 : Int) (a1 : Int) (a2 : Int) : evGX (cxU sp_cfg_isIn [] 40 1048576) keeps 8 56 ash_cfg_isIn (.dat .bool) ((a0, a1, a2, ()) : (Int × (Int × (Int × Unit)))) = g_cfg_isIn a0 a1 a2 := by kernel_rfl
noncomputable def G_cfg_isIn (x : (Int × (Int × (Int × Unit)))) : Option Bool := g_cfg_isIn x.1 x.2.1 x.2.2.1
noncomputable def con_cfg_isIn : List AV → Prog AV := conP true ash_cfg_isIn (.dat .bool) G_cfg_isIn
theorem snd_cfg_isIn : SoundA Tryz.prog 56 con_cfg_isIn := conP_sound (calU sp_cfg_isIn [] 40 1048576 8 56) true (by rfl) (by rfl) (fun x r e => (evGX_eq _ _ _ _ _ _ _).trans ((raw_cfg_isIn x.1 x.2.1 x.2.2.1).trans e)) (.inl rfl)
end Go.Proofs.YtmjbedjnojcmfaaGreatDoor.Ex

namespace Go.Proofs.YtmjbedjnojcmfaaGreatDoor.Ex
open Go.Proofs Go.Proofs.YtmjbedjnojcmfaaGreatDoor
set_option maxRecDepth 100000
set_option maxHeartbeats 2000000
set_option linter.unusedVariables false
set_option linter.unusedSimpArgs false
end Go.Proofs.YtmjbedjnojcmfaaGreatDoor.Ex

namespace Go.Proofs.YtmjbedjnojcmfaaGreatDoor.Ex
set_option maxRecDepth 100000
set_option maxHeartbeats 2000000
set_option linter.unusedVariables false
set_option linter.unusedSimpArgs false
end Go.Proofs.YtmjbedjnojcmfaaGreatDoor.Ex

namespace Go.Proofs.YtmjbedjnojcmfaaGreatDoor.Ex
open Go.Proofs Go.Proofs.YtmjbedjnojcmfaaGreatDoor
set_option maxRecDepth 100000
set_option maxHeartbeats 2000000
set_option linter.unusedVariables false
set_option linter.unusedSimpArgs false
end Go.Proofs.YtmjbedjnojcmfaaGreatDoor.Ex

namespace Go.Proofs.YtmjbedjnojcmfaaGreatDoor.Ex
set_option maxRecDepth 100000
set_option linter.unusedVariables false
set_option linter.unusedSimpArgs false
end Go.Proofs.YtmjbedjnojcmfaaGreatDoor.Ex

namespace Go.Proofs.YtmjbedjnojcmfaaGreatDoor.Ex
open Go.Proofs
set_option maxRecDepth 100000
set_option linter.unusedVariables false
set_option linter.unusedSimpArgs false
end Go.Proofs.YtmjbedjnojcmfaaGreatDoor.Ex

namespace Go.Proofs.YtmjbedjnojcmfaaGreatDoor.Ex
set_option linter.unusedSectionVars false
set_option linter.unusedVariables false
section
variable [RT] {P : Program}
section
variable {ok : Nat → Prop} {hdr0 hdr : Nat → Value} {S0 S : Stb} {h0 h : Hp} {w0 w : World} {a0 a : Act} {T : Tm}
end
end
end Go.Proofs.YtmjbedjnojcmfaaGreatDoor.Ex

namespace Go.Proofs.YtmjbedjnojcmfaaGreatDoor.Ex
open Go.Proofs Go.Proofs.YtmjbedjnojcmfaaGreatDoor
set_option maxRecDepth 100000
set_option maxHeartbeats 2000000
set_option linter.unusedVariables false
set_option linter.unusedSimpArgs false
end Go.Proofs.YtmjbedjnojcmfaaGreatDoor.Ex

namespace Go.Proofs.YtmjbedjnojcmfaaGreatDoor.Ex
set_option maxRecDepth 100000
set_option maxHeartbeats 2000000
set_option linter.unusedVariables false
set_option linter.unusedSimpArgs false
end Go.Proofs.YtmjbedjnojcmfaaGreatDoor.Ex

namespace Go.Proofs.YtmjbedjnojcmfaaGreatDoor.Ex
open Go.Proofs
set_option maxRecDepth 100000
set_option linter.unusedVariables false
set_option linter.unusedSimpArgs false
end Go.Proofs.YtmjbedjnojcmfaaGreatDoor.Ex

namespace Go.Proofs.YtmjbedjnojcmfaaGreatDoor.Ex
open Go.Proofs
set_option maxRecDepth 100000
set_option maxHeartbeats 2000000
set_option linter.unusedVariables false
set_option linter.unusedSimpArgs false
end Go.Proofs.YtmjbedjnojcmfaaGreatDoor.Ex

namespace Go.Proofs.YtmjbedjnojcmfaaGreatDoor.Ex
open Go.Proofs
set_option maxRecDepth 100000
set_option maxHeartbeats 2000000
set_option linter.unusedVariables false
set_option linter.unusedSimpArgs false
end Go.Proofs.YtmjbedjnojcmfaaGreatDoor.Ex

namespace Go.Proofs.YtmjbedjnojcmfaaGreatDoor.Ex
open Go.Proofs
set_option maxRecDepth 100000
set_option maxHeartbeats 2000000
set_option linter.unusedVariables false
set_option linter.unusedSimpArgs false
end Go.Proofs.YtmjbedjnojcmfaaGreatDoor.Ex

namespace Go.Proofs.YtmjbedjnojcmfaaGreatDoor.Ex
open Go.Proofs
set_option linter.unusedVariables false
end Go.Proofs.YtmjbedjnojcmfaaGreatDoor.Ex

namespace Go.Proofs.YtmjbedjnojcmfaaGreatDoor.Ex
open Go.Proofs Go.Proofs.YtmjbedjnojcmfaaGreatDoor
set_option maxRecDepth 100000
set_option maxHeartbeats 2000000
set_option linter.unusedVariables false
set_option linter.unusedSimpArgs false
end Go.Proofs.YtmjbedjnojcmfaaGreatDoor.Ex

namespace Go.Proofs.YtmjbedjnojcmfaaGreatDoor.Ex
set_option maxRecDepth 100000
set_option maxHeartbeats 2000000
set_option linter.unusedVariables false
set_option linter.unusedSimpArgs false
end Go.Proofs.YtmjbedjnojcmfaaGreatDoor.Ex

namespace Go.Proofs.YtmjbedjnojcmfaaGreatDoor.Ex
open Go.Proofs
set_option maxRecDepth 100000
set_option maxHeartbeats 2000000
set_option linter.unusedVariables false
set_option linter.unusedSimpArgs false
end Go.Proofs.YtmjbedjnojcmfaaGreatDoor.Ex

namespace Go.Proofs.YtmjbedjnojcmfaaGreatDoor.Ex
open Go.Proofs
set_option maxRecDepth 100000
set_option maxHeartbeats 2000000
set_option linter.unusedVariables false
set_option linter.unusedSimpArgs false
end Go.Proofs.YtmjbedjnojcmfaaGreatDoor.Ex

namespace Go.Proofs.YtmjbedjnojcmfaaGreatDoor.Ex
set_option maxRecDepth 100000
set_option linter.unusedVariables false
set_option linter.unusedSimpArgs false
end Go.Proofs.YtmjbedjnojcmfaaGreatDoor.Ex

namespace Go.Proofs.YtmjbedjnojcmfaaGreatDoor.Ex
open Go.Proofs Go.Proofs.YtmjbedjnojcmfaaGreatDoor
set_option maxRecDepth 100000
set_option maxHeartbeats 2000000
set_option linter.unusedVariables false
set_option linter.unusedSimpArgs false
def ash_ref8_Ints : List Sh := [.dat (.sl (.int .i64)), .dat (.sl (.int .i64))]
def kp_ref8_Ints_30_0 : Nat → List Nat := fun c => bif c.beq 0 then [0, 1, 5] else [4]
noncomputable def sp_ref8_Ints : List Con := []
def s_ref8_Ints_30_0_0 : StS := ⟨[(0, .sl (.int .i64)), (1, .sl (.int .i64)), (5, .int .i64)], [], 0⟩
def x_ref8_Ints_30_0_0_0 : StS := ⟨[(4, .undef)], [], 0⟩
def x_ref8_Ints_30_0_0_1 : StS := ⟨[(4, .bool)], [], 0⟩
abbrev X_ref8_Ints_30_0_0 := ((List Int) × (List Int) × Int)
def fl_ref8_Ints_30_0_0 (d : StD s_ref8_Ints_30_0_0) : X_ref8_Ints_30_0_0 := (d.1.1, d.1.2.1, d.1.2.2.1)
def un_ref8_Ints_30_0_0 (x : X_ref8_Ints_30_0_0) : StD s_ref8_Ints_30_0_0 := ((x.1, x.2.1, x.2.2, ()), ())
abbrev X_ref8_Ints_30_0_0_0 := Unit
def fl_ref8_Ints_30_0_0_0 (d : StD x_ref8_Ints_30_0_0_0) : X_ref8_Ints_30_0_0_0 := ()
def un_ref8_Ints_30_0_0_0 (x : X_ref8_Ints_30_0_0_0) : StD x_ref8_Ints_30_0_0_0 := (((), ()), ())
abbrev X_ref8_Ints_30_0_0_1 := Bool
def fl_ref8_Ints_30_0_0_1 (d : StD x_ref8_Ints_30_0_0_1) : X_ref8_Ints_30_0_0_1 := (d.1.1)
def un_ref8_Ints_30_0_0_1 (x : X_ref8_Ints_30_0_0_1) : StD x_ref8_Ints_30_0_0_1 := ((x, ()), ())
noncomputable def st_ref8_Ints_30_0_0 (s0 : (List Int)) (s1 : (List Int)) (s5 : Int) : Option (((List Int) × (List Int) × Int) ⊕ (Unit ⊕ Bool)) :=
  bif decide (s5 < (↑s0.length : Int)) then
 bif decide (0 ≤ s5) then
 optC s0[s5.toNat]? none fun d5 ↦
 bif decide (0 ≤ s5) then
 optC s1[s5.toNat]? none fun d6 ↦ bif d5 != d6 then some (Sum.inr (Sum.inr false)) else some (Sum.inl (s0, s1, Go.IntKind.i64.wrap (s5 + 1)))
 else none
 else none
 else some (Sum.inr (Sum.inl PUnit.unit))
noncomputable def sx_ref8_Ints_30_0_0 (x : X_ref8_Ints_30_0_0) : Option (X_ref8_Ints_30_0_0 ⊕ (X_ref8_Ints_30_0_0_0 ⊕ X_ref8_Ints_30_0_0_1)) := st_ref8_Ints_30_0_0 x.1 x.2.1 x.2.2
theorem rn_ref8_Ints_30_0_0 (x : X_ref8_Ints_30_0_0) : rdX (cxU sp_ref8_Ints [] 40 1048576) keeps 8 ⟨30, 26, keeps 30, 0⟩ 0 (bodyX 30 0) 0 kp_ref8_Ints_30_0 (sT s_ref8_Ints_30_0_0 (un_ref8_Ints_30_0_0 x)) (sH s_ref8_Ints_30_0_0 (un_ref8_Ints_30_0_0 x)) (rdO (fun T h => (rdS s_ref8_Ints_30_0_0 T h).map fl_ref8_Ints_30_0_0) (getOr (getE 2 x_ref8_Ints_30_0_0_0 fl_ref8_Ints_30_0_0_0) (getE 1 x_ref8_Ints_30_0_0_1 fl_ref8_Ints_30_0_0_1))) = sx_ref8_Ints_30_0_0 x := by kernel_rfl
noncomputable def L_ref8_Ints_30_0_0 (x : X_ref8_Ints_30_0_0) : Option (X_ref8_Ints_30_0_0_0 ⊕ X_ref8_Ints_30_0_0_1) := iterO (fun x => st_ref8_Ints_30_0_0 x.1 x.2.1 x.2.2) FUEL x
noncomputable def q_ref8_Ints_30_0 : Nat → Tm → Prog (Nat × Tm) := (varP 0 (fun T h => (rdS s_ref8_Ints_30_0_0 T h).map fl_ref8_Ints_30_0_0) L_ref8_Ints_30_0_0 (fun y => .alt y (altE 2 x_ref8_Ints_30_0_0_0 un_ref8_Ints_30_0_0_0) (altE 1 x_ref8_Ints_30_0_0_1 un_ref8_Ints_30_0_0_1)) (fun _ _ => .fail))
noncomputable def lc_ref8_Ints_30_0 : Lpc := ⟨30, 0, 26, (fun base T => .norm base (kp_ref8_Ints_30_0 0) T (q_ref8_Ints_30_0 base)), by kernel_rfl, by kernel_rfl, (loopU sp_ref8_Ints [] 40 1048576 8 (keep := kp_ref8_Ints_30_0) (q := q_ref8_Ints_30_0) (by kernel_rfl) (varX_ok (s := s_ref8_Ints_30_0_0) (un := un_ref8_Ints_30_0_0) (by rfl) (fun _ => rfl) (getOr_ok (getE_ok (s := x_ref8_Ints_30_0_0_0) (un := un_ref8_Ints_30_0_0_0) (by rfl) (fun _ => rfl)) (getE_ok (s := x_ref8_Ints_30_0_0_1) (un := un_ref8_Ints_30_0_0_1) (by rfl) (fun _ => rfl))) (step := sx_ref8_Ints_30_0_0) rn_ref8_Ints_30_0_0 (fun _ _ e => ⟨_, e⟩) (altOr_ok (altE_ok 2 x_ref8_Ints_30_0_0_0 un_ref8_Ints_30_0_0_0) (altE_ok 1 x_ref8_Ints_30_0_0_1 un_ref8_Ints_30_0_0_1)) (VarOk.fail _ _)))⟩
noncomputable def g_ref8_Ints (a0 : (List Int)) (a1 : (List Int)) : Option Bool :=
  bif (↑a0.length : Int) != (↑a1.length : Int) then some false
 else optC (L_ref8_Ints_30_0_0 (a0, a1, 0)) none fun d4 ↦ Sum.elim (fun e5 ↦ some true) (fun e5 ↦ some e5) d4
theorem raw_ref8_Ints (a0 : (List Int)) (a1 : (List Int)) : evGX (cxU sp_ref8_Ints [lc_ref8_Ints_30_0] 40 1048576) keeps 8 30 ash_ref8_Ints (.dat .bool) ((a0, a1, ()) : ((List Int) × ((List Int) × Unit))) = g_ref8_Ints a0 a1 := by kernel_rfl
noncomputable def G_ref8_Ints (x : ((List Int) × ((List Int) × Unit))) : Option Bool := g_ref8_Ints x.1 x.2.1
noncomputable def con_ref8_Ints : List AV → Prog AV := conP true ash_ref8_Ints (.dat .bool) G_ref8_Ints
theorem snd_ref8_Ints : SoundA Tryz.prog 30 con_ref8_Ints := conP_sound (calU sp_ref8_Ints [lc_ref8_Ints_30_0] 40 1048576 8 30) true (by rfl) (by rfl) (fun x r e => (evGX_eq _ _ _ _ _ _ _).trans ((raw_ref8_Ints x.1 x.2.1).trans e)) (.inl rfl)
end Go.Proofs.YtmjbedjnojcmfaaGreatDoor.Ex

namespace Go.Proofs.YtmjbedjnojcmfaaGreatDoor.Ex
set_option maxRecDepth 100000
set_option maxHeartbeats 2000000
set_option linter.unusedVariables false
set_option linter.unusedSimpArgs false
noncomputable def bd_ref8_Ints_30_0_0 (s1 : (List Int)) (s0 : (List Int)) (i : Nat)  (d : Int) : Option (Unit ⊕ (X_ref8_Ints_30_0_0_0 ⊕ X_ref8_Ints_30_0_0_1)) :=
  optC s1[i]? (none) fun d6 ↦
   bif d != d6 then
   some (Sum.inr (Sum.inr false))
 else some (Sum.inl ())
noncomputable def fn_ref8_Ints_30_0_0 (s1 : (List Int)) (s0 : (List Int))  : Option (X_ref8_Ints_30_0_0_0 ⊕ X_ref8_Ints_30_0_0_1) :=
  some (Sum.inl PUnit.unit)
noncomputable abbrev rx_ref8_Ints_30_0_0 (s1 : (List Int)) (s0 : (List Int)) (i : Nat) (s : Unit) : X_ref8_Ints_30_0_0 := (s0, s1, (i : Int))
noncomputable def rv_ref8_Ints_30_0_0 (s1 : (List Int)) (s0 : (List Int)) (s : Unit) : Option (X_ref8_Ints_30_0_0_0 ⊕ X_ref8_Ints_30_0_0_1) := rangeO (fun i s d => bd_ref8_Ints_30_0_0 s1 s0 i  d) (fun s => fn_ref8_Ints_30_0_0 s1 s0 ) 0 s0 s
theorem rg_ref8_Ints_30_0_0 (s1 : (List Int)) (s0 : (List Int)) (s : Unit) (hl : s0.length < 9223372036854775807) : L_ref8_Ints_30_0_0 (s0, s1, 0) = rv_ref8_Ints_30_0_0 s1 s0 s := by
  unfold L_ref8_Ints_30_0_0 rv_ref8_Ints_30_0_0
  refine iterO_range0 s0 (rx_ref8_Ints_30_0_0 s1 s0) _ _ ?_ ?_ s (by unfold FUEL; omega)
  · intro i s d hi hd
    have e1 : decide ((i : Int) < (s0.length : Int)) = true := decide_eq_true (by omega)
    have e2 : decide (0 ≤ (i : Int)) = true := decide_eq_true (by omega)
    have e3 : Int.toNat (i : Int) = i := Int.toNat_natCast i
    have e4 := wrap_next hi (Nat.le_of_lt hl)
    show st_ref8_Ints_30_0_0 (s0) (s1) ((i : Int)) = upd _ (bd_ref8_Ints_30_0_0 s1 s0 i  d)
    unfold st_ref8_Ints_30_0_0 bd_ref8_Ints_30_0_0
    simp only [e1, e2, e3, e4, hd, cond_true, cond_false, optC_some, upd_cond, upd_optC, upd_elim, upd_inl, upd_inr, upd_none]
  · intro s
    have e1 : decide ((s0.length : Int) < (s0.length : Int)) = false := decide_eq_false (by omega)
    show st_ref8_Ints_30_0_0 (s0) (s1) ((s0.length : Int)) = _
    unfold st_ref8_Ints_30_0_0 fn_ref8_Ints_30_0_0
    rw [e1]
    rfl
end Go.Proofs.YtmjbedjnojcmfaaGreatDoor.Ex

namespace Go.Proofs.YtmjbedjnojcmfaaGreatDoor.Ex
open Go.Proofs Go.Proofs.YtmjbedjnojcmfaaGreatDoor
set_option maxRecDepth 100000
set_option maxHeartbeats 2000000
set_option linter.unusedVariables false
set_option linter.unusedSimpArgs false
def ash_law8_wide : List Sh := [.dat tU]
def kp_law8_wide_25_0 : Nat → List Nat := fun c => bif c.beq 0 then [1, 3, 4] else [3]
noncomputable def sp_law8_wide : List Con := []
def s_law8_wide_25_0_0 : StS := ⟨[(1, .ptr 0 0), (3, .int .i64), (4, .int .i64)], [(0, .box [.sl (.int .i64), .sl (.int .i64), .int .i64, .sl tC])], 1⟩
def x_law8_wide_25_0_0_0 : StS := ⟨[(3, .int .i64)], [], 0⟩
abbrev X_law8_wide_25_0_0 := (Int × Int × (List Int) × (List Int) × Int × (List C))
def fl_law8_wide_25_0_0 (d : StD s_law8_wide_25_0_0) : X_law8_wide_25_0_0 := (d.1.2.1, d.1.2.2.1, d.2.1.1, d.2.1.2.1, d.2.1.2.2.1, d.2.1.2.2.2.1)
def un_law8_wide_25_0_0 (x : X_law8_wide_25_0_0) : StD s_law8_wide_25_0_0 := (((), x.1, x.2.1, ()), ((x.2.2.1, x.2.2.2.1, x.2.2.2.2.1, x.2.2.2.2.2, ()), ()))
abbrev X_law8_wide_25_0_0_0 := Int
def fl_law8_wide_25_0_0_0 (d : StD x_law8_wide_25_0_0_0) : X_law8_wide_25_0_0_0 := (d.1.1)
def un_law8_wide_25_0_0_0 (x : X_law8_wide_25_0_0_0) : StD x_law8_wide_25_0_0_0 := ((x, ()), ())
noncomputable def st_law8_wide_25_0_0 (s3 : Int) (s4 : Int) (b0 : (List Int)) (b0_1 : (List Int)) (b0_2 : Int) (b0_3 : (List C)) : Option ((Int × Int × (List Int) × (List Int) × Int × (List C)) ⊕ Int) :=
  bif decide (s4 < (↑b0_3.length : Int)) then
 bif decide (s3 ≤ 400) then
 bif decide (0 ≤ s4) then
 optC b0_3[s4.toNat]? none fun d8 ↦
 some (Sum.inl (Go.IntKind.i64.wrap (Go.IntKind.i64.wrap (s3 + 1) + (↑(List.length d8.2) : Int)), Go.IntKind.i64.wrap (s4 + 1), b0, b0_1, b0_2, b0_3))
 else none
 else some (Sum.inr s3)
 else some (Sum.inr s3)
noncomputable def sx_law8_wide_25_0_0 (x : X_law8_wide_25_0_0) : Option (X_law8_wide_25_0_0 ⊕ X_law8_wide_25_0_0_0) := st_law8_wide_25_0_0 x.1 x.2.1 x.2.2.1 x.2.2.2.1 x.2.2.2.2.1 x.2.2.2.2.2
theorem rn_law8_wide_25_0_0 (x : X_law8_wide_25_0_0) : rdX (cxU sp_law8_wide [] 40 1048576) keeps 8 ⟨25, 35, keeps 25, 0⟩ 0 (bodyX 25 0) 0 kp_law8_wide_25_0 (sT s_law8_wide_25_0_0 (un_law8_wide_25_0_0 x)) (sH s_law8_wide_25_0_0 (un_law8_wide_25_0_0 x)) (rdO (fun T h => (rdS s_law8_wide_25_0_0 T h).map fl_law8_wide_25_0_0) (getE 2 x_law8_wide_25_0_0_0 fl_law8_wide_25_0_0_0)) = sx_law8_wide_25_0_0 x := by kernel_rfl
noncomputable def L_law8_wide_25_0_0 (x : X_law8_wide_25_0_0) : Option X_law8_wide_25_0_0_0 := iterO (fun x => st_law8_wide_25_0_0 x.1 x.2.1 x.2.2.1 x.2.2.2.1 x.2.2.2.2.1 x.2.2.2.2.2) FUEL x
noncomputable def q_law8_wide_25_0 : Nat → Tm → Prog (Nat × Tm) := (varP 0 (fun T h => (rdS s_law8_wide_25_0_0 T h).map fl_law8_wide_25_0_0) L_law8_wide_25_0_0 (altE 2 x_law8_wide_25_0_0_0 un_law8_wide_25_0_0_0) (fun _ _ => .fail))
noncomputable def lc_law8_wide_25_0 : Lpc := ⟨25, 0, 35, (fun base T => .norm base (kp_law8_wide_25_0 0) T (q_law8_wide_25_0 base)), by kernel_rfl, by kernel_rfl, (loopU sp_law8_wide [] 40 1048576 8 (keep := kp_law8_wide_25_0) (q := q_law8_wide_25_0) (by kernel_rfl) (varX_ok (s := s_law8_wide_25_0_0) (un := un_law8_wide_25_0_0) (by rfl) (fun _ => rfl) (getE_ok (s := x_law8_wide_25_0_0_0) (un := un_law8_wide_25_0_0_0) (by rfl) (fun _ => rfl)) (step := sx_law8_wide_25_0_0) rn_law8_wide_25_0_0 (fun _ _ e => ⟨_, e⟩) (altE_ok 2 x_law8_wide_25_0_0_0 un_law8_wide_25_0_0_0) (VarOk.fail _ _)))⟩
noncomputable def g_law8_wide (a0 : U) : Option Bool :=
  optC (L_law8_wide_25_0_0 (Go.IntKind.i64.wrap ((↑(List.length a0.1) : Int) + (↑(List.length a0.2.1) : Int)), 0, a0)) none fun d3 ↦ some (decide (d3 > 400))
theorem raw_law8_wide (a0 : U) : evGX (cxU sp_law8_wide [lc_law8_wide_25_0] 40 1048576) keeps 8 25 ash_law8_wide (.dat .bool) ((a0, ()) : (U × Unit)) = g_law8_wide a0 := by kernel_rfl
noncomputable def G_law8_wide (x : (U × Unit)) : Option Bool := g_law8_wide x.1
noncomputable def con_law8_wide : List AV → Prog AV := conP true ash_law8_wide (.dat .bool) G_law8_wide
theorem snd_law8_wide : SoundA Tryz.prog 25 con_law8_wide := conP_sound (calU sp_law8_wide [lc_law8_wide_25_0] 40 1048576 8 25) true (by rfl) (by rfl) (fun x r e => (evGX_eq _ _ _ _ _ _ _).trans ((raw_law8_wide x.1).trans e)) (.inl rfl)
end Go.Proofs.YtmjbedjnojcmfaaGreatDoor.Ex

namespace Go.Proofs.YtmjbedjnojcmfaaGreatDoor.Ex
set_option maxRecDepth 100000
set_option maxHeartbeats 2000000
set_option linter.unusedVariables false
set_option linter.unusedSimpArgs false
noncomputable def bd_law8_wide_25_0_0 (b0 : (List Int)) (b0_1 : (List Int)) (b0_2 : Int) (b0_3 : (List C)) (i : Nat) (s3 : Int) (d : C) : Option (Int ⊕ X_law8_wide_25_0_0_0) :=
  bif decide (s3 ≤ 400) then
   some (Sum.inl (Go.IntKind.i64.wrap (Go.IntKind.i64.wrap (s3 + 1) + (↑(List.length d.2) : Int))))
 else some (Sum.inr s3)
noncomputable def fn_law8_wide_25_0_0 (b0 : (List Int)) (b0_1 : (List Int)) (b0_2 : Int) (b0_3 : (List C)) (s3 : Int) : Option X_law8_wide_25_0_0_0 :=
  some s3
noncomputable abbrev rx_law8_wide_25_0_0 (b0 : (List Int)) (b0_1 : (List Int)) (b0_2 : Int) (b0_3 : (List C)) (i : Nat) (s : Int) : X_law8_wide_25_0_0 := (s, (i : Int), b0, b0_1, b0_2, b0_3)
noncomputable def rv_law8_wide_25_0_0 (b0 : (List Int)) (b0_1 : (List Int)) (b0_2 : Int) (b0_3 : (List C)) (s : Int) : Option X_law8_wide_25_0_0_0 := rangeO (fun i s d => bd_law8_wide_25_0_0 b0 b0_1 b0_2 b0_3 i s d) (fun s => fn_law8_wide_25_0_0 b0 b0_1 b0_2 b0_3 s) 0 b0_3 s
theorem rg_law8_wide_25_0_0 (b0 : (List Int)) (b0_1 : (List Int)) (b0_2 : Int) (b0_3 : (List C)) (s : Int) (hl : b0_3.length < 9223372036854775807) : L_law8_wide_25_0_0 (s, 0, b0, b0_1, b0_2, b0_3) = rv_law8_wide_25_0_0 b0 b0_1 b0_2 b0_3 s := by
  unfold L_law8_wide_25_0_0 rv_law8_wide_25_0_0
  refine iterO_range0 b0_3 (rx_law8_wide_25_0_0 b0 b0_1 b0_2 b0_3) _ _ ?_ ?_ s (by unfold FUEL; omega)
  · intro i s d hi hd
    have e1 : decide ((i : Int) < (b0_3.length : Int)) = true := decide_eq_true (by omega)
    have e2 : decide (0 ≤ (i : Int)) = true := decide_eq_true (by omega)
    have e3 : Int.toNat (i : Int) = i := Int.toNat_natCast i
    have e4 := wrap_next hi (Nat.le_of_lt hl)
    show st_law8_wide_25_0_0 (s) ((i : Int)) (b0) (b0_1) (b0_2) (b0_3) = upd _ (bd_law8_wide_25_0_0 b0 b0_1 b0_2 b0_3 i s d)
    unfold st_law8_wide_25_0_0 bd_law8_wide_25_0_0
    simp only [e1, e2, e3, e4, hd, cond_true, cond_false, optC_some, upd_cond, upd_optC, upd_elim, upd_inl, upd_inr, upd_none]
  · intro s
    have e1 : decide ((b0_3.length : Int) < (b0_3.length : Int)) = false := decide_eq_false (by omega)
    show st_law8_wide_25_0_0 (s) ((b0_3.length : Int)) (b0) (b0_1) (b0_2) (b0_3) = _
    unfold st_law8_wide_25_0_0 fn_law8_wide_25_0_0
    rw [e1]
    rfl
end Go.Proofs.YtmjbedjnojcmfaaGreatDoor.Ex

namespace Go.Proofs.YtmjbedjnojcmfaaGreatDoor.Ex
def isClo (k f : Nat) (args : List AV) : Bool := match args[k]? with
  | some (.clo g _ _) => Nat.beq g f
  | _ => false
end Go.Proofs.YtmjbedjnojcmfaaGreatDoor.Ex

