/- A part of the proofs of the laws of intervals: XJ. -/
import Derived.Test.YtcmmchpofkoddaaXI
/- Loops N: where each round begins. -/
namespace Go.Proofs.Ytcmmchpofkoddaa.Ex
open Go.Proofs Go.Proofs.Ytcmmchpofkoddaa
set_option maxRecDepth 100000
set_option linter.unusedVariables false
set_option linter.unusedSimpArgs false
def keepL7i : List Nat := [4, 5, 0, 54, 53, 52, 64, 63, 62, 13, 10, 7, 11, 6]
noncomputable def FL7i (base : Nat) : Tm → Prog (Nat × Tm) := evC cxM (evF cxM keeps 3) ⟨7, 106, keeps 7, base⟩ 2 (bodyX 7 2)
def TL7i (op : Int) (io : Int) (no : Int) (i : Int) (n : Int) (xx : Int) (lo : Bool) (hi : Bool) : Tm := [(4, .ptr 0 0), (5, .ptr 1 0), (0, .int .i64 op), (54, .int .i64 io), (53, .int .i64 no), (52, .row 2), (64, .int .i64 i), (63, .int .i64 n), (62, .row 3), (13, .int .i64 xx), (10, .bool lo), (7, .ptr 4 0), (11, .bool hi), (6, .bool false)]
def HL7i (x : I) (y : I) (xs : List Int) (ys : List Int) (v : I) : Hp := ⟨[(0, .box [.int .i64 x.1, .int .i64 x.2]), (1, .box [.int .i64 y.1, .int .i64 y.2]), (2, .row (.int .i64) xs), (3, .row (.int .i64) ys), (4, .box [.int .i64 v.1, .int .i64 v.2])], 5⟩
end Go.Proofs.Ytcmmchpofkoddaa.Ex

/- Loops N: each round. -/
namespace Go.Proofs.Ytcmmchpofkoddaa.Ex
open Go.Proofs Go.Proofs.Ytcmmchpofkoddaa
set_option maxRecDepth 100000
set_option linter.unusedVariables false
set_option linter.unusedSimpArgs false
theorem rnd7i {R : Type} (op : Int) (io : Int) (no : Int) (i : Int) (n : Int) (xx : Int) (lo : Bool) (hi : Bool) (x : I) (y : I) (xs : List Int) (ys : List Int) (v : I) (K : Nat → Tm → Hp → Option R) : round 0 keepL7i (FL7i 0) (TL7i op io no i n xx lo hi) (HL7i x y xs ys v) K =
  bif Decidable.decide (i < n) then
    bif Decidable.decide (0 ≤ i) then
      Go.Proofs.Ytcmmchpofkoddaa.Ex.optC ys[i.toNat]? Option.none fun d15 ↦
        Go.Proofs.Ytcmmchpofkoddaa.Ex.optC ys[i.toNat]? Option.none fun d16 ↦
          bif lo then
            bif hi then
              K 0
                [(4, Go.Proofs.Ytcmmchpofkoddaa.Ex.AV.ptr 0 0), (5, Go.Proofs.Ytcmmchpofkoddaa.Ex.AV.ptr 1 0), (0, Go.Proofs.Ytcmmchpofkoddaa.Ex.AV.int Go.IntKind.i64 op), (54, Go.Proofs.Ytcmmchpofkoddaa.Ex.AV.int Go.IntKind.i64 io), (53, Go.Proofs.Ytcmmchpofkoddaa.Ex.AV.int Go.IntKind.i64 no), (52, Go.Proofs.Ytcmmchpofkoddaa.Ex.AV.row 2),
                  (64, Go.Proofs.Ytcmmchpofkoddaa.Ex.AV.int Go.IntKind.i64 (Go.IntKind.i64.wrap (i + 1))), (63, Go.Proofs.Ytcmmchpofkoddaa.Ex.AV.int Go.IntKind.i64 n), (62, Go.Proofs.Ytcmmchpofkoddaa.Ex.AV.row 3), (13, Go.Proofs.Ytcmmchpofkoddaa.Ex.AV.int Go.IntKind.i64 xx),
                  (10, Go.Proofs.Ytcmmchpofkoddaa.Ex.AV.bool Bool.true), (7, Go.Proofs.Ytcmmchpofkoddaa.Ex.AV.ptr 4 0), (11, Go.Proofs.Ytcmmchpofkoddaa.Ex.AV.bool Bool.true), (6, Go.Proofs.Ytcmmchpofkoddaa.Ex.AV.bool Bool.false)]
                {
                  blks :=
                    [(0, Go.Proofs.Ytcmmchpofkoddaa.Ex.Blk.box [Go.Proofs.Ytcmmchpofkoddaa.Ex.AV.int Go.IntKind.i64 x.fst, Go.Proofs.Ytcmmchpofkoddaa.Ex.AV.int Go.IntKind.i64 x.snd]), (1, Go.Proofs.Ytcmmchpofkoddaa.Ex.Blk.box [Go.Proofs.Ytcmmchpofkoddaa.Ex.AV.int Go.IntKind.i64 y.fst, Go.Proofs.Ytcmmchpofkoddaa.Ex.AV.int Go.IntKind.i64 y.snd]),
                      (2, Go.Proofs.Ytcmmchpofkoddaa.Ex.Blk.row (Go.Proofs.Ytcmmchpofkoddaa.Ex.Ty.int Go.IntKind.i64) xs), (3, Go.Proofs.Ytcmmchpofkoddaa.Ex.Blk.row (Go.Proofs.Ytcmmchpofkoddaa.Ex.Ty.int Go.IntKind.i64) ys),
                      (4, Go.Proofs.Ytcmmchpofkoddaa.Ex.Blk.box [Go.Proofs.Ytcmmchpofkoddaa.Ex.AV.int Go.IntKind.i64 v.fst, Go.Proofs.Ytcmmchpofkoddaa.Ex.AV.int Go.IntKind.i64 v.snd])],
                  c := 5 }
            else
              bif (Go.Proofs.Ytcmmchpofkoddaa.Ex.doR op xx d16).snd == 0 then
                K 0
                  [(4, Go.Proofs.Ytcmmchpofkoddaa.Ex.AV.ptr 0 0), (5, Go.Proofs.Ytcmmchpofkoddaa.Ex.AV.ptr 1 0), (0, Go.Proofs.Ytcmmchpofkoddaa.Ex.AV.int Go.IntKind.i64 op), (54, Go.Proofs.Ytcmmchpofkoddaa.Ex.AV.int Go.IntKind.i64 io), (53, Go.Proofs.Ytcmmchpofkoddaa.Ex.AV.int Go.IntKind.i64 no), (52, Go.Proofs.Ytcmmchpofkoddaa.Ex.AV.row 2),
                    (64, Go.Proofs.Ytcmmchpofkoddaa.Ex.AV.int Go.IntKind.i64 (Go.IntKind.i64.wrap (i + 1))), (63, Go.Proofs.Ytcmmchpofkoddaa.Ex.AV.int Go.IntKind.i64 n), (62, Go.Proofs.Ytcmmchpofkoddaa.Ex.AV.row 3), (13, Go.Proofs.Ytcmmchpofkoddaa.Ex.AV.int Go.IntKind.i64 xx),
                    (10, Go.Proofs.Ytcmmchpofkoddaa.Ex.AV.bool Bool.true), (7, Go.Proofs.Ytcmmchpofkoddaa.Ex.AV.ptr 4 0), (11, Go.Proofs.Ytcmmchpofkoddaa.Ex.AV.bool ((Go.Proofs.Ytcmmchpofkoddaa.Ex.doR op xx d16).fst == v.snd)), (6, Go.Proofs.Ytcmmchpofkoddaa.Ex.AV.bool Bool.false)]
                  {
                    blks :=
                      [(0, Go.Proofs.Ytcmmchpofkoddaa.Ex.Blk.box [Go.Proofs.Ytcmmchpofkoddaa.Ex.AV.int Go.IntKind.i64 x.fst, Go.Proofs.Ytcmmchpofkoddaa.Ex.AV.int Go.IntKind.i64 x.snd]),
                        (1, Go.Proofs.Ytcmmchpofkoddaa.Ex.Blk.box [Go.Proofs.Ytcmmchpofkoddaa.Ex.AV.int Go.IntKind.i64 y.fst, Go.Proofs.Ytcmmchpofkoddaa.Ex.AV.int Go.IntKind.i64 y.snd]), (2, Go.Proofs.Ytcmmchpofkoddaa.Ex.Blk.row (Go.Proofs.Ytcmmchpofkoddaa.Ex.Ty.int Go.IntKind.i64) xs),
                        (3, Go.Proofs.Ytcmmchpofkoddaa.Ex.Blk.row (Go.Proofs.Ytcmmchpofkoddaa.Ex.Ty.int Go.IntKind.i64) ys), (4, Go.Proofs.Ytcmmchpofkoddaa.Ex.Blk.box [Go.Proofs.Ytcmmchpofkoddaa.Ex.AV.int Go.IntKind.i64 v.fst, Go.Proofs.Ytcmmchpofkoddaa.Ex.AV.int Go.IntKind.i64 v.snd])],
                    c := 5 }
              else
                K 0
                  [(4, Go.Proofs.Ytcmmchpofkoddaa.Ex.AV.ptr 0 0), (5, Go.Proofs.Ytcmmchpofkoddaa.Ex.AV.ptr 1 0), (0, Go.Proofs.Ytcmmchpofkoddaa.Ex.AV.int Go.IntKind.i64 op), (54, Go.Proofs.Ytcmmchpofkoddaa.Ex.AV.int Go.IntKind.i64 io), (53, Go.Proofs.Ytcmmchpofkoddaa.Ex.AV.int Go.IntKind.i64 no), (52, Go.Proofs.Ytcmmchpofkoddaa.Ex.AV.row 2),
                    (64, Go.Proofs.Ytcmmchpofkoddaa.Ex.AV.int Go.IntKind.i64 (Go.IntKind.i64.wrap (i + 1))), (63, Go.Proofs.Ytcmmchpofkoddaa.Ex.AV.int Go.IntKind.i64 n), (62, Go.Proofs.Ytcmmchpofkoddaa.Ex.AV.row 3), (13, Go.Proofs.Ytcmmchpofkoddaa.Ex.AV.int Go.IntKind.i64 xx),
                    (10, Go.Proofs.Ytcmmchpofkoddaa.Ex.AV.bool Bool.true), (7, Go.Proofs.Ytcmmchpofkoddaa.Ex.AV.ptr 4 0), (11, Go.Proofs.Ytcmmchpofkoddaa.Ex.AV.bool Bool.false), (6, Go.Proofs.Ytcmmchpofkoddaa.Ex.AV.bool Bool.false)]
                  {
                    blks :=
                      [(0, Go.Proofs.Ytcmmchpofkoddaa.Ex.Blk.box [Go.Proofs.Ytcmmchpofkoddaa.Ex.AV.int Go.IntKind.i64 x.fst, Go.Proofs.Ytcmmchpofkoddaa.Ex.AV.int Go.IntKind.i64 x.snd]),
                        (1, Go.Proofs.Ytcmmchpofkoddaa.Ex.Blk.box [Go.Proofs.Ytcmmchpofkoddaa.Ex.AV.int Go.IntKind.i64 y.fst, Go.Proofs.Ytcmmchpofkoddaa.Ex.AV.int Go.IntKind.i64 y.snd]), (2, Go.Proofs.Ytcmmchpofkoddaa.Ex.Blk.row (Go.Proofs.Ytcmmchpofkoddaa.Ex.Ty.int Go.IntKind.i64) xs),
                        (3, Go.Proofs.Ytcmmchpofkoddaa.Ex.Blk.row (Go.Proofs.Ytcmmchpofkoddaa.Ex.Ty.int Go.IntKind.i64) ys), (4, Go.Proofs.Ytcmmchpofkoddaa.Ex.Blk.box [Go.Proofs.Ytcmmchpofkoddaa.Ex.AV.int Go.IntKind.i64 v.fst, Go.Proofs.Ytcmmchpofkoddaa.Ex.AV.int Go.IntKind.i64 v.snd])],
                    c := 5 }
          else
            bif (Go.Proofs.Ytcmmchpofkoddaa.Ex.doR op xx d16).snd == 0 then
              bif hi then
                K 0
                  [(4, Go.Proofs.Ytcmmchpofkoddaa.Ex.AV.ptr 0 0), (5, Go.Proofs.Ytcmmchpofkoddaa.Ex.AV.ptr 1 0), (0, Go.Proofs.Ytcmmchpofkoddaa.Ex.AV.int Go.IntKind.i64 op), (54, Go.Proofs.Ytcmmchpofkoddaa.Ex.AV.int Go.IntKind.i64 io), (53, Go.Proofs.Ytcmmchpofkoddaa.Ex.AV.int Go.IntKind.i64 no), (52, Go.Proofs.Ytcmmchpofkoddaa.Ex.AV.row 2),
                    (64, Go.Proofs.Ytcmmchpofkoddaa.Ex.AV.int Go.IntKind.i64 (Go.IntKind.i64.wrap (i + 1))), (63, Go.Proofs.Ytcmmchpofkoddaa.Ex.AV.int Go.IntKind.i64 n), (62, Go.Proofs.Ytcmmchpofkoddaa.Ex.AV.row 3), (13, Go.Proofs.Ytcmmchpofkoddaa.Ex.AV.int Go.IntKind.i64 xx),
                    (10, Go.Proofs.Ytcmmchpofkoddaa.Ex.AV.bool ((Go.Proofs.Ytcmmchpofkoddaa.Ex.doR op xx d16).fst == v.fst)), (7, Go.Proofs.Ytcmmchpofkoddaa.Ex.AV.ptr 4 0), (11, Go.Proofs.Ytcmmchpofkoddaa.Ex.AV.bool Bool.true), (6, Go.Proofs.Ytcmmchpofkoddaa.Ex.AV.bool Bool.false)]
                  {
                    blks :=
                      [(0, Go.Proofs.Ytcmmchpofkoddaa.Ex.Blk.box [Go.Proofs.Ytcmmchpofkoddaa.Ex.AV.int Go.IntKind.i64 x.fst, Go.Proofs.Ytcmmchpofkoddaa.Ex.AV.int Go.IntKind.i64 x.snd]),
                        (1, Go.Proofs.Ytcmmchpofkoddaa.Ex.Blk.box [Go.Proofs.Ytcmmchpofkoddaa.Ex.AV.int Go.IntKind.i64 y.fst, Go.Proofs.Ytcmmchpofkoddaa.Ex.AV.int Go.IntKind.i64 y.snd]), (2, Go.Proofs.Ytcmmchpofkoddaa.Ex.Blk.row (Go.Proofs.Ytcmmchpofkoddaa.Ex.Ty.int Go.IntKind.i64) xs),
                        (3, Go.Proofs.Ytcmmchpofkoddaa.Ex.Blk.row (Go.Proofs.Ytcmmchpofkoddaa.Ex.Ty.int Go.IntKind.i64) ys), (4, Go.Proofs.Ytcmmchpofkoddaa.Ex.Blk.box [Go.Proofs.Ytcmmchpofkoddaa.Ex.AV.int Go.IntKind.i64 v.fst, Go.Proofs.Ytcmmchpofkoddaa.Ex.AV.int Go.IntKind.i64 v.snd])],
                    c := 5 }
              else
                bif (Go.Proofs.Ytcmmchpofkoddaa.Ex.doR op xx d16).snd == 0 then
                  K 0
                    [(4, Go.Proofs.Ytcmmchpofkoddaa.Ex.AV.ptr 0 0), (5, Go.Proofs.Ytcmmchpofkoddaa.Ex.AV.ptr 1 0), (0, Go.Proofs.Ytcmmchpofkoddaa.Ex.AV.int Go.IntKind.i64 op), (54, Go.Proofs.Ytcmmchpofkoddaa.Ex.AV.int Go.IntKind.i64 io), (53, Go.Proofs.Ytcmmchpofkoddaa.Ex.AV.int Go.IntKind.i64 no), (52, Go.Proofs.Ytcmmchpofkoddaa.Ex.AV.row 2),
                      (64, Go.Proofs.Ytcmmchpofkoddaa.Ex.AV.int Go.IntKind.i64 (Go.IntKind.i64.wrap (i + 1))), (63, Go.Proofs.Ytcmmchpofkoddaa.Ex.AV.int Go.IntKind.i64 n), (62, Go.Proofs.Ytcmmchpofkoddaa.Ex.AV.row 3), (13, Go.Proofs.Ytcmmchpofkoddaa.Ex.AV.int Go.IntKind.i64 xx),
                      (10, Go.Proofs.Ytcmmchpofkoddaa.Ex.AV.bool ((Go.Proofs.Ytcmmchpofkoddaa.Ex.doR op xx d16).fst == v.fst)), (7, Go.Proofs.Ytcmmchpofkoddaa.Ex.AV.ptr 4 0), (11, Go.Proofs.Ytcmmchpofkoddaa.Ex.AV.bool ((Go.Proofs.Ytcmmchpofkoddaa.Ex.doR op xx d16).fst == v.snd)), (6, Go.Proofs.Ytcmmchpofkoddaa.Ex.AV.bool Bool.false)]
                    {
                      blks :=
                        [(0, Go.Proofs.Ytcmmchpofkoddaa.Ex.Blk.box [Go.Proofs.Ytcmmchpofkoddaa.Ex.AV.int Go.IntKind.i64 x.fst, Go.Proofs.Ytcmmchpofkoddaa.Ex.AV.int Go.IntKind.i64 x.snd]),
                          (1, Go.Proofs.Ytcmmchpofkoddaa.Ex.Blk.box [Go.Proofs.Ytcmmchpofkoddaa.Ex.AV.int Go.IntKind.i64 y.fst, Go.Proofs.Ytcmmchpofkoddaa.Ex.AV.int Go.IntKind.i64 y.snd]), (2, Go.Proofs.Ytcmmchpofkoddaa.Ex.Blk.row (Go.Proofs.Ytcmmchpofkoddaa.Ex.Ty.int Go.IntKind.i64) xs),
                          (3, Go.Proofs.Ytcmmchpofkoddaa.Ex.Blk.row (Go.Proofs.Ytcmmchpofkoddaa.Ex.Ty.int Go.IntKind.i64) ys), (4, Go.Proofs.Ytcmmchpofkoddaa.Ex.Blk.box [Go.Proofs.Ytcmmchpofkoddaa.Ex.AV.int Go.IntKind.i64 v.fst, Go.Proofs.Ytcmmchpofkoddaa.Ex.AV.int Go.IntKind.i64 v.snd])],
                      c := 5 }
                else
                  K 0
                    [(4, Go.Proofs.Ytcmmchpofkoddaa.Ex.AV.ptr 0 0), (5, Go.Proofs.Ytcmmchpofkoddaa.Ex.AV.ptr 1 0), (0, Go.Proofs.Ytcmmchpofkoddaa.Ex.AV.int Go.IntKind.i64 op), (54, Go.Proofs.Ytcmmchpofkoddaa.Ex.AV.int Go.IntKind.i64 io), (53, Go.Proofs.Ytcmmchpofkoddaa.Ex.AV.int Go.IntKind.i64 no), (52, Go.Proofs.Ytcmmchpofkoddaa.Ex.AV.row 2),
                      (64, Go.Proofs.Ytcmmchpofkoddaa.Ex.AV.int Go.IntKind.i64 (Go.IntKind.i64.wrap (i + 1))), (63, Go.Proofs.Ytcmmchpofkoddaa.Ex.AV.int Go.IntKind.i64 n), (62, Go.Proofs.Ytcmmchpofkoddaa.Ex.AV.row 3), (13, Go.Proofs.Ytcmmchpofkoddaa.Ex.AV.int Go.IntKind.i64 xx),
                      (10, Go.Proofs.Ytcmmchpofkoddaa.Ex.AV.bool ((Go.Proofs.Ytcmmchpofkoddaa.Ex.doR op xx d16).fst == v.fst)), (7, Go.Proofs.Ytcmmchpofkoddaa.Ex.AV.ptr 4 0), (11, Go.Proofs.Ytcmmchpofkoddaa.Ex.AV.bool Bool.false), (6, Go.Proofs.Ytcmmchpofkoddaa.Ex.AV.bool Bool.false)]
                    {
                      blks :=
                        [(0, Go.Proofs.Ytcmmchpofkoddaa.Ex.Blk.box [Go.Proofs.Ytcmmchpofkoddaa.Ex.AV.int Go.IntKind.i64 x.fst, Go.Proofs.Ytcmmchpofkoddaa.Ex.AV.int Go.IntKind.i64 x.snd]),
                          (1, Go.Proofs.Ytcmmchpofkoddaa.Ex.Blk.box [Go.Proofs.Ytcmmchpofkoddaa.Ex.AV.int Go.IntKind.i64 y.fst, Go.Proofs.Ytcmmchpofkoddaa.Ex.AV.int Go.IntKind.i64 y.snd]), (2, Go.Proofs.Ytcmmchpofkoddaa.Ex.Blk.row (Go.Proofs.Ytcmmchpofkoddaa.Ex.Ty.int Go.IntKind.i64) xs),
                          (3, Go.Proofs.Ytcmmchpofkoddaa.Ex.Blk.row (Go.Proofs.Ytcmmchpofkoddaa.Ex.Ty.int Go.IntKind.i64) ys), (4, Go.Proofs.Ytcmmchpofkoddaa.Ex.Blk.box [Go.Proofs.Ytcmmchpofkoddaa.Ex.AV.int Go.IntKind.i64 v.fst, Go.Proofs.Ytcmmchpofkoddaa.Ex.AV.int Go.IntKind.i64 v.snd])],
                      c := 5 }
            else
              bif hi then
                K 0
                  [(4, Go.Proofs.Ytcmmchpofkoddaa.Ex.AV.ptr 0 0), (5, Go.Proofs.Ytcmmchpofkoddaa.Ex.AV.ptr 1 0), (0, Go.Proofs.Ytcmmchpofkoddaa.Ex.AV.int Go.IntKind.i64 op), (54, Go.Proofs.Ytcmmchpofkoddaa.Ex.AV.int Go.IntKind.i64 io), (53, Go.Proofs.Ytcmmchpofkoddaa.Ex.AV.int Go.IntKind.i64 no), (52, Go.Proofs.Ytcmmchpofkoddaa.Ex.AV.row 2),
                    (64, Go.Proofs.Ytcmmchpofkoddaa.Ex.AV.int Go.IntKind.i64 (Go.IntKind.i64.wrap (i + 1))), (63, Go.Proofs.Ytcmmchpofkoddaa.Ex.AV.int Go.IntKind.i64 n), (62, Go.Proofs.Ytcmmchpofkoddaa.Ex.AV.row 3), (13, Go.Proofs.Ytcmmchpofkoddaa.Ex.AV.int Go.IntKind.i64 xx),
                    (10, Go.Proofs.Ytcmmchpofkoddaa.Ex.AV.bool Bool.false), (7, Go.Proofs.Ytcmmchpofkoddaa.Ex.AV.ptr 4 0), (11, Go.Proofs.Ytcmmchpofkoddaa.Ex.AV.bool Bool.true), (6, Go.Proofs.Ytcmmchpofkoddaa.Ex.AV.bool Bool.false)]
                  {
                    blks :=
                      [(0, Go.Proofs.Ytcmmchpofkoddaa.Ex.Blk.box [Go.Proofs.Ytcmmchpofkoddaa.Ex.AV.int Go.IntKind.i64 x.fst, Go.Proofs.Ytcmmchpofkoddaa.Ex.AV.int Go.IntKind.i64 x.snd]),
                        (1, Go.Proofs.Ytcmmchpofkoddaa.Ex.Blk.box [Go.Proofs.Ytcmmchpofkoddaa.Ex.AV.int Go.IntKind.i64 y.fst, Go.Proofs.Ytcmmchpofkoddaa.Ex.AV.int Go.IntKind.i64 y.snd]), (2, Go.Proofs.Ytcmmchpofkoddaa.Ex.Blk.row (Go.Proofs.Ytcmmchpofkoddaa.Ex.Ty.int Go.IntKind.i64) xs),
                        (3, Go.Proofs.Ytcmmchpofkoddaa.Ex.Blk.row (Go.Proofs.Ytcmmchpofkoddaa.Ex.Ty.int Go.IntKind.i64) ys), (4, Go.Proofs.Ytcmmchpofkoddaa.Ex.Blk.box [Go.Proofs.Ytcmmchpofkoddaa.Ex.AV.int Go.IntKind.i64 v.fst, Go.Proofs.Ytcmmchpofkoddaa.Ex.AV.int Go.IntKind.i64 v.snd])],
                    c := 5 }
              else
                bif (Go.Proofs.Ytcmmchpofkoddaa.Ex.doR op xx d16).snd == 0 then
                  K 0
                    [(4, Go.Proofs.Ytcmmchpofkoddaa.Ex.AV.ptr 0 0), (5, Go.Proofs.Ytcmmchpofkoddaa.Ex.AV.ptr 1 0), (0, Go.Proofs.Ytcmmchpofkoddaa.Ex.AV.int Go.IntKind.i64 op), (54, Go.Proofs.Ytcmmchpofkoddaa.Ex.AV.int Go.IntKind.i64 io), (53, Go.Proofs.Ytcmmchpofkoddaa.Ex.AV.int Go.IntKind.i64 no), (52, Go.Proofs.Ytcmmchpofkoddaa.Ex.AV.row 2),
                      (64, Go.Proofs.Ytcmmchpofkoddaa.Ex.AV.int Go.IntKind.i64 (Go.IntKind.i64.wrap (i + 1))), (63, Go.Proofs.Ytcmmchpofkoddaa.Ex.AV.int Go.IntKind.i64 n), (62, Go.Proofs.Ytcmmchpofkoddaa.Ex.AV.row 3), (13, Go.Proofs.Ytcmmchpofkoddaa.Ex.AV.int Go.IntKind.i64 xx),
                      (10, Go.Proofs.Ytcmmchpofkoddaa.Ex.AV.bool Bool.false), (7, Go.Proofs.Ytcmmchpofkoddaa.Ex.AV.ptr 4 0), (11, Go.Proofs.Ytcmmchpofkoddaa.Ex.AV.bool ((Go.Proofs.Ytcmmchpofkoddaa.Ex.doR op xx d16).fst == v.snd)), (6, Go.Proofs.Ytcmmchpofkoddaa.Ex.AV.bool Bool.false)]
                    {
                      blks :=
                        [(0, Go.Proofs.Ytcmmchpofkoddaa.Ex.Blk.box [Go.Proofs.Ytcmmchpofkoddaa.Ex.AV.int Go.IntKind.i64 x.fst, Go.Proofs.Ytcmmchpofkoddaa.Ex.AV.int Go.IntKind.i64 x.snd]),
                          (1, Go.Proofs.Ytcmmchpofkoddaa.Ex.Blk.box [Go.Proofs.Ytcmmchpofkoddaa.Ex.AV.int Go.IntKind.i64 y.fst, Go.Proofs.Ytcmmchpofkoddaa.Ex.AV.int Go.IntKind.i64 y.snd]), (2, Go.Proofs.Ytcmmchpofkoddaa.Ex.Blk.row (Go.Proofs.Ytcmmchpofkoddaa.Ex.Ty.int Go.IntKind.i64) xs),
                          (3, Go.Proofs.Ytcmmchpofkoddaa.Ex.Blk.row (Go.Proofs.Ytcmmchpofkoddaa.Ex.Ty.int Go.IntKind.i64) ys), (4, Go.Proofs.Ytcmmchpofkoddaa.Ex.Blk.box [Go.Proofs.Ytcmmchpofkoddaa.Ex.AV.int Go.IntKind.i64 v.fst, Go.Proofs.Ytcmmchpofkoddaa.Ex.AV.int Go.IntKind.i64 v.snd])],
                      c := 5 }
                else
                  K 0
                    [(4, Go.Proofs.Ytcmmchpofkoddaa.Ex.AV.ptr 0 0), (5, Go.Proofs.Ytcmmchpofkoddaa.Ex.AV.ptr 1 0), (0, Go.Proofs.Ytcmmchpofkoddaa.Ex.AV.int Go.IntKind.i64 op), (54, Go.Proofs.Ytcmmchpofkoddaa.Ex.AV.int Go.IntKind.i64 io), (53, Go.Proofs.Ytcmmchpofkoddaa.Ex.AV.int Go.IntKind.i64 no), (52, Go.Proofs.Ytcmmchpofkoddaa.Ex.AV.row 2),
                      (64, Go.Proofs.Ytcmmchpofkoddaa.Ex.AV.int Go.IntKind.i64 (Go.IntKind.i64.wrap (i + 1))), (63, Go.Proofs.Ytcmmchpofkoddaa.Ex.AV.int Go.IntKind.i64 n), (62, Go.Proofs.Ytcmmchpofkoddaa.Ex.AV.row 3), (13, Go.Proofs.Ytcmmchpofkoddaa.Ex.AV.int Go.IntKind.i64 xx),
                      (10, Go.Proofs.Ytcmmchpofkoddaa.Ex.AV.bool Bool.false), (7, Go.Proofs.Ytcmmchpofkoddaa.Ex.AV.ptr 4 0), (11, Go.Proofs.Ytcmmchpofkoddaa.Ex.AV.bool Bool.false), (6, Go.Proofs.Ytcmmchpofkoddaa.Ex.AV.bool Bool.false)]
                    {
                      blks :=
                        [(0, Go.Proofs.Ytcmmchpofkoddaa.Ex.Blk.box [Go.Proofs.Ytcmmchpofkoddaa.Ex.AV.int Go.IntKind.i64 x.fst, Go.Proofs.Ytcmmchpofkoddaa.Ex.AV.int Go.IntKind.i64 x.snd]),
                          (1, Go.Proofs.Ytcmmchpofkoddaa.Ex.Blk.box [Go.Proofs.Ytcmmchpofkoddaa.Ex.AV.int Go.IntKind.i64 y.fst, Go.Proofs.Ytcmmchpofkoddaa.Ex.AV.int Go.IntKind.i64 y.snd]), (2, Go.Proofs.Ytcmmchpofkoddaa.Ex.Blk.row (Go.Proofs.Ytcmmchpofkoddaa.Ex.Ty.int Go.IntKind.i64) xs),
                          (3, Go.Proofs.Ytcmmchpofkoddaa.Ex.Blk.row (Go.Proofs.Ytcmmchpofkoddaa.Ex.Ty.int Go.IntKind.i64) ys), (4, Go.Proofs.Ytcmmchpofkoddaa.Ex.Blk.box [Go.Proofs.Ytcmmchpofkoddaa.Ex.AV.int Go.IntKind.i64 v.fst, Go.Proofs.Ytcmmchpofkoddaa.Ex.AV.int Go.IntKind.i64 v.snd])],
                      c := 5 }
    else Option.none
  else
    K 4
      [(4, Go.Proofs.Ytcmmchpofkoddaa.Ex.AV.ptr 0 0), (5, Go.Proofs.Ytcmmchpofkoddaa.Ex.AV.ptr 1 0), (0, Go.Proofs.Ytcmmchpofkoddaa.Ex.AV.int Go.IntKind.i64 op), (54, Go.Proofs.Ytcmmchpofkoddaa.Ex.AV.int Go.IntKind.i64 io), (53, Go.Proofs.Ytcmmchpofkoddaa.Ex.AV.int Go.IntKind.i64 no), (52, Go.Proofs.Ytcmmchpofkoddaa.Ex.AV.row 2),
        (64, Go.Proofs.Ytcmmchpofkoddaa.Ex.AV.int Go.IntKind.i64 i), (63, Go.Proofs.Ytcmmchpofkoddaa.Ex.AV.int Go.IntKind.i64 n), (62, Go.Proofs.Ytcmmchpofkoddaa.Ex.AV.row 3), (13, Go.Proofs.Ytcmmchpofkoddaa.Ex.AV.int Go.IntKind.i64 xx), (10, Go.Proofs.Ytcmmchpofkoddaa.Ex.AV.bool lo), (7, Go.Proofs.Ytcmmchpofkoddaa.Ex.AV.ptr 4 0),
        (11, Go.Proofs.Ytcmmchpofkoddaa.Ex.AV.bool hi), (6, Go.Proofs.Ytcmmchpofkoddaa.Ex.AV.bool Bool.false)]
      {
        blks :=
          [(0, Go.Proofs.Ytcmmchpofkoddaa.Ex.Blk.box [Go.Proofs.Ytcmmchpofkoddaa.Ex.AV.int Go.IntKind.i64 x.fst, Go.Proofs.Ytcmmchpofkoddaa.Ex.AV.int Go.IntKind.i64 x.snd]), (1, Go.Proofs.Ytcmmchpofkoddaa.Ex.Blk.box [Go.Proofs.Ytcmmchpofkoddaa.Ex.AV.int Go.IntKind.i64 y.fst, Go.Proofs.Ytcmmchpofkoddaa.Ex.AV.int Go.IntKind.i64 y.snd]),
            (2, Go.Proofs.Ytcmmchpofkoddaa.Ex.Blk.row (Go.Proofs.Ytcmmchpofkoddaa.Ex.Ty.int Go.IntKind.i64) xs), (3, Go.Proofs.Ytcmmchpofkoddaa.Ex.Blk.row (Go.Proofs.Ytcmmchpofkoddaa.Ex.Ty.int Go.IntKind.i64) ys),
            (4, Go.Proofs.Ytcmmchpofkoddaa.Ex.Blk.box [Go.Proofs.Ytcmmchpofkoddaa.Ex.AV.int Go.IntKind.i64 v.fst, Go.Proofs.Ytcmmchpofkoddaa.Ex.AV.int Go.IntKind.i64 v.snd])],
        c := 5 } := by kernel_rfl
end Go.Proofs.Ytcmmchpofkoddaa.Ex

/- Loops N: what they come to. -/
namespace Go.Proofs.Ytcmmchpofkoddaa.Ex
open Go.Proofs Go.Proofs.Ytcmmchpofkoddaa
set_option maxRecDepth 100000
set_option linter.unusedVariables false
set_option linter.unusedSimpArgs false
def stepL7i (op : Int) (io : Int) (no : Int) (xx : Int) (x : I) (y : I) (xs : List Int) (v : I) (lo : Bool) (hi : Bool) (d : Int) : Bool × Bool := (lo || ((doR op xx d).2 == 0 && (doR op xx d).1 == v.1), hi || ((doR op xx d).2 == 0 && (doR op xx d).1 == v.2))
def vL7i (op : Int) (io : Int) (no : Int) (xx : Int) (x : I) (y : I) (xs : List Int) (v : I) (ys : List Int) (s : Bool × Bool) : Bool × Bool := ys.foldl (fun s d => stepL7i op io no xx x y xs v (s.1) (s.2) d) s
theorem runL7i (op : Int) (io : Int) (no : Int) (xx : Int) (x : I) (y : I) (xs : List Int) (v : I) (ys : List Int) (hl : ys.length ≤ 4611686018427387904) (s : Bool × Bool) :
    go (iterM 0 keepL7i (FL7i 0) (ys.length + 1) (TL7i op io no 0 (ys.length : Nat) xx (s.1) (s.2))) (HL7i x y xs ys v) = some ((((4, TL7i op io no (ys.length : Nat) (ys.length : Nat) xx ((vL7i op io no xx x y xs v ys s).1) ((vL7i op io no xx x y xs v ys s).2)), HL7i x y xs ys v) : Out3)) := by
  have key := range_loop (keep := keepL7i) (F := FL7i 0) ys (fun i s => TL7i op io no (i : Nat) (ys.length : Nat) xx (s.1) (s.2)) (fun i s => HL7i x y xs ys v) (fun _ s d => .inl (stepL7i op io no xx x y xs v (s.1) (s.2) d)) (fun s => (((4, TL7i op io no (ys.length : Nat) (ys.length : Nat) xx (s.1) (s.2)), HL7i x y xs ys v) : Out3)) ?_ ?_ ?_ ?_ ys 0 s rfl (Nat.zero_le _)
  · rw [runL_inl] at key
    exact key
  · intro i s d hi hd hm K
    skip
    rw [rnd7i]
    have e1 : decide ((i : Int) < ((ys.length : Nat) : Int)) = true := decide_eq_true (by omega)
    have e2 : decide (0 ≤ (i : Int)) = true := decide_eq_true (by omega)
    rw [e1, e2, Int.toNat_natCast, wrap_up hi hl]
    rw [hd]; obtain ⟨lo, hi⟩ := s; simp only [optC, cond_true]; unfold stepL7i; generalize doR op xx d = q
    cases lo <;> cases hi <;> cases (q.2 == 0) <;> rfl
  · intro i s d x e; cases e
  · intro s K
    rw [rnd7i]
    have e1 : decide (((ys.length : Nat) : Int) < ((ys.length : Nat) : Int)) = false := decide_eq_false (by omega)
    rw [e1]
    rfl
  · intro s; exact nofun
def dT7i : Tm → Option (Int × Int × Int × Int × Int × Int × Bool × Bool)
  | [(4, .ptr 0 0), (5, .ptr 1 0), (0, .int .i64 op), (54, .int .i64 io), (53, .int .i64 no), (52, .row 2), (64, .int .i64 i), (63, .int .i64 n), (62, .row 3), (13, .int .i64 xx), (10, .bool lo), (7, .ptr 4 0), (11, .bool hi), (6, .bool false)] => some (op, io, no, i, n, xx, lo, hi)
  | _ => none
def dH7i : Hp → Option (I × I × List Int × List Int × I)
  | ⟨[(0, .box [.int .i64 x1, .int .i64 x2]), (1, .box [.int .i64 y1, .int .i64 y2]), (2, .row (.int .i64) xs), (3, .row (.int .i64) ys), (4, .box [.int .i64 v1, .int .i64 v2])], 5⟩ => some ((x1, x2), (y1, y2), xs, ys, (v1, v2))
  | _ => none
theorem dT7i_some {T : Tm} {t : Int × Int × Int × Int × Int × Int × Bool × Bool} (e : dT7i T = some t) : T = TL7i (t.1) (t.2.1) (t.2.2.1) (t.2.2.2.1) (t.2.2.2.2.1) (t.2.2.2.2.2.1) (t.2.2.2.2.2.2.1) (t.2.2.2.2.2.2.2) := by
  unfold dT7i at e
  split at e
  · cases e; rfl
  · cases e
theorem dH7i_some {h : Hp} {u : I × I × List Int × List Int × I} (e : dH7i h = some u) : h = HL7i (u.1) (u.2.1) (u.2.2.1) (u.2.2.2.1) (u.2.2.2.2) := by
  unfold dH7i at e
  split at e
  · cases e; rfl
  · cases e
def qL7i (base : Nat) (T : Tm) : Prog (Nat × Tm) := match base with
  | 0 => match dT7i T with
    | some t => loopA dH7i (fun u => ((t.2.2.2.1) == 0) && ((t.2.2.2.2.1) == ((u.2.2.2.1).length : Nat)) && decide (((u.2.2.2.1).length : Int) ≤ 4611686018427387904)) fun u => (((4, TL7i (t.1) (t.2.1) (t.2.2.1) ((u.2.2.2.1).length : Nat) ((u.2.2.2.1).length : Nat) (t.2.2.2.2.2.1) ((vL7i (t.1) (t.2.1) (t.2.2.1) (t.2.2.2.2.2.1) (u.1) (u.2.1) (u.2.2.1) (u.2.2.2.2) (u.2.2.2.1) ((t.2.2.2.2.2.2.1), (t.2.2.2.2.2.2.2))).1) ((vL7i (t.1) (t.2.1) (t.2.2.1) (t.2.2.2.2.2.1) (u.1) (u.2.1) (u.2.2.1) (u.2.2.2.2) (u.2.2.2.1) ((t.2.2.2.2.2.2.1), (t.2.2.2.2.2.2.2))).2)), HL7i (u.1) (u.2.1) (u.2.2.1) (u.2.2.2.1) (u.2.2.2.2)) : Out3)
    | none => .fail
  | _ + 1 => .fail
theorem qgo7i (base : Nat) (T : Tm) (h : Hp) (r : Nat × Tm) (h' : Hp) (e : go (qL7i base T) h = some (r, h')) : ∃ m, go (iterM base keepL7i (FL7i base) m T) h = some (r, h') := by
  unfold qL7i at e
  split at e
  · split at e
    · rename_i t ht
      obtain ⟨u, hu, c, e2⟩ := loopA_go e
      rw [dT7i_some ht, dH7i_some hu]
      simp only [Bool.and_eq_true, beq_iff_eq, decide_eq_true_eq] at c
      skip
      obtain ⟨⟨c1, c2⟩, c3⟩ := c
      refine ⟨(u.2.2.2.1).length + 1, ?_⟩
      rw [c1, c2]
      rw [e2]
      have := runL7i (t.1) (t.2.1) (t.2.2.1) (t.2.2.2.2.2.1) (u.1) (u.2.1) (u.2.2.1) (u.2.2.2.2) (u.2.2.2.1) (by omega) ((t.2.2.2.2.2.2.1), (t.2.2.2.2.2.2.2))
      exact this
    · cases e
  · cases e
noncomputable def lpL7i (base : Nat) (T : Tm) : Prog (Nat × Tm) := .norm base keepL7i T (qL7i base)
theorem sndL7i : SoundC Try.prog 106 (.loop (bodyX 7 2)) lpL7i :=
  loop_sound (cx := cxM) (cal := evF cxM keeps 3) (kp := keeps 7) (tabOk_of tab_ok) (cmpsOk_of tab_ok cmps_ok) calM mixed (by intro q hq p hp; cases hp) qgo7i
end Go.Proofs.Ytcmmchpofkoddaa.Ex

/- Loops O: where each round begins. -/
namespace Go.Proofs.Ytcmmchpofkoddaa.Ex
open Go.Proofs Go.Proofs.Ytcmmchpofkoddaa
set_option maxRecDepth 100000
set_option linter.unusedVariables false
set_option linter.unusedSimpArgs false
noncomputable def lpN : Nat → Nat → Option (Nat → Tm → Prog (Nat × Tm))
  | 7, 2 => some lpL7i
  | _, _ => none
noncomputable def cxN : Ctx := { tab := tab, spec := spM, inl := inl, lps := lpN, fuel := 10 }
theorem hl7 : ∀ q ∈ loopsOf 0 (bodyX 7 0), ∀ p, cxN.lps 7 q.1 = some p → SoundC Try.prog 106 (.loop q.2) p := by
  intro q hq p hp
  change lpN 7 q.1 = some p at hp
  generalize hq1 : q.1 = b at hp
  unfold lpN at hp
  split at hp
  · cases hp
    have e := find_nodup (b := 2) (l := loopsOf 0 (bodyX 7 0)) (by kernel_rfl) hq hq1
    have e2 : (loopsOf 0 (bodyX 7 0)).find? (fun q => Nat.beq q.1 2) = some (2, bodyX 7 2) := by kernel_rfl
    rw [e2] at e; cases e; exact sndL7i
  · cases hp
def keepL7o : List Nat := [4, 5, 0, 54, 53, 52, 10, 7, 11, 6]
noncomputable def FL7o (base : Nat) : Tm → Prog (Nat × Tm) := evC cxN (evF cxM keeps 3) ⟨7, 106, keeps 7, base⟩ 0 (bodyX 7 0)
def TL7o (op : Int) (i : Int) (n : Int) (lo : Bool) (hi : Bool) : Tm := [(4, .ptr 0 0), (5, .ptr 1 0), (0, .int .i64 op), (54, .int .i64 i), (53, .int .i64 n), (52, .row 2), (10, .bool lo), (7, .ptr 3 0), (11, .bool hi), (6, .bool false)]
def HL7o (x : I) (y : I) (xs : List Int) (v : I) : Hp := ⟨[(0, .box [.int .i64 x.1, .int .i64 x.2]), (1, .box [.int .i64 y.1, .int .i64 y.2]), (2, .row (.int .i64) xs), (3, .box [.int .i64 v.1, .int .i64 v.2])], 4⟩
end Go.Proofs.Ytcmmchpofkoddaa.Ex

/- Loops O: each round. -/
namespace Go.Proofs.Ytcmmchpofkoddaa.Ex
open Go.Proofs Go.Proofs.Ytcmmchpofkoddaa
set_option maxRecDepth 100000
set_option linter.unusedVariables false
set_option linter.unusedSimpArgs false
theorem rnd7o {R : Type} (op : Int) (i : Int) (n : Int) (lo : Bool) (hi : Bool) (x : I) (y : I) (xs : List Int) (v : I) (K : Nat → Tm → Hp → Option R) : round 0 keepL7o (FL7o 0) (TL7o op i n lo hi) (HL7o x y xs v) K =
  bif Decidable.decide (i < n) then
    bif Decidable.decide (0 ≤ i) then
      Go.Proofs.Ytcmmchpofkoddaa.Ex.optC xs[i.toNat]? Option.none fun d11 ↦
        Go.Proofs.Ytcmmchpofkoddaa.Ex.optC xs[i.toNat]? Option.none fun d12 ↦
          K 0
            [(4, Go.Proofs.Ytcmmchpofkoddaa.Ex.AV.ptr 0 0), (5, Go.Proofs.Ytcmmchpofkoddaa.Ex.AV.ptr 1 0), (0, Go.Proofs.Ytcmmchpofkoddaa.Ex.AV.int Go.IntKind.i64 op), (54, Go.Proofs.Ytcmmchpofkoddaa.Ex.AV.int Go.IntKind.i64 (Go.IntKind.i64.wrap (i + 1))), (53, Go.Proofs.Ytcmmchpofkoddaa.Ex.AV.int Go.IntKind.i64 n),
              (52, Go.Proofs.Ytcmmchpofkoddaa.Ex.AV.row 2), (10, Go.Proofs.Ytcmmchpofkoddaa.Ex.AV.bool (Go.Proofs.Ytcmmchpofkoddaa.Ex.vL7i op i n d12 x y xs v [y.fst, y.snd] (lo, hi)).fst), (7, Go.Proofs.Ytcmmchpofkoddaa.Ex.AV.ptr 3 0),
              (11, Go.Proofs.Ytcmmchpofkoddaa.Ex.AV.bool (Go.Proofs.Ytcmmchpofkoddaa.Ex.vL7i op i n d12 x y xs v [y.fst, y.snd] (lo, hi)).snd), (6, Go.Proofs.Ytcmmchpofkoddaa.Ex.AV.bool Bool.false)]
            {
              blks :=
                [(0, Go.Proofs.Ytcmmchpofkoddaa.Ex.Blk.box [Go.Proofs.Ytcmmchpofkoddaa.Ex.AV.int Go.IntKind.i64 x.fst, Go.Proofs.Ytcmmchpofkoddaa.Ex.AV.int Go.IntKind.i64 x.snd]), (1, Go.Proofs.Ytcmmchpofkoddaa.Ex.Blk.box [Go.Proofs.Ytcmmchpofkoddaa.Ex.AV.int Go.IntKind.i64 y.fst, Go.Proofs.Ytcmmchpofkoddaa.Ex.AV.int Go.IntKind.i64 y.snd]),
                  (2, Go.Proofs.Ytcmmchpofkoddaa.Ex.Blk.row (Go.Proofs.Ytcmmchpofkoddaa.Ex.Ty.int Go.IntKind.i64) xs), (3, Go.Proofs.Ytcmmchpofkoddaa.Ex.Blk.box [Go.Proofs.Ytcmmchpofkoddaa.Ex.AV.int Go.IntKind.i64 v.fst, Go.Proofs.Ytcmmchpofkoddaa.Ex.AV.int Go.IntKind.i64 v.snd])],
              c := 4 }
    else Option.none
  else
    K 2
      [(4, Go.Proofs.Ytcmmchpofkoddaa.Ex.AV.ptr 0 0), (5, Go.Proofs.Ytcmmchpofkoddaa.Ex.AV.ptr 1 0), (0, Go.Proofs.Ytcmmchpofkoddaa.Ex.AV.int Go.IntKind.i64 op), (54, Go.Proofs.Ytcmmchpofkoddaa.Ex.AV.int Go.IntKind.i64 i), (53, Go.Proofs.Ytcmmchpofkoddaa.Ex.AV.int Go.IntKind.i64 n), (52, Go.Proofs.Ytcmmchpofkoddaa.Ex.AV.row 2),
        (10, Go.Proofs.Ytcmmchpofkoddaa.Ex.AV.bool lo), (7, Go.Proofs.Ytcmmchpofkoddaa.Ex.AV.ptr 3 0), (11, Go.Proofs.Ytcmmchpofkoddaa.Ex.AV.bool hi), (6, Go.Proofs.Ytcmmchpofkoddaa.Ex.AV.bool Bool.false)]
      {
        blks :=
          [(0, Go.Proofs.Ytcmmchpofkoddaa.Ex.Blk.box [Go.Proofs.Ytcmmchpofkoddaa.Ex.AV.int Go.IntKind.i64 x.fst, Go.Proofs.Ytcmmchpofkoddaa.Ex.AV.int Go.IntKind.i64 x.snd]), (1, Go.Proofs.Ytcmmchpofkoddaa.Ex.Blk.box [Go.Proofs.Ytcmmchpofkoddaa.Ex.AV.int Go.IntKind.i64 y.fst, Go.Proofs.Ytcmmchpofkoddaa.Ex.AV.int Go.IntKind.i64 y.snd]),
            (2, Go.Proofs.Ytcmmchpofkoddaa.Ex.Blk.row (Go.Proofs.Ytcmmchpofkoddaa.Ex.Ty.int Go.IntKind.i64) xs), (3, Go.Proofs.Ytcmmchpofkoddaa.Ex.Blk.box [Go.Proofs.Ytcmmchpofkoddaa.Ex.AV.int Go.IntKind.i64 v.fst, Go.Proofs.Ytcmmchpofkoddaa.Ex.AV.int Go.IntKind.i64 v.snd])],
        c := 4 } := by kernel_rfl
end Go.Proofs.Ytcmmchpofkoddaa.Ex

/- Loops O: what they come to. -/
namespace Go.Proofs.Ytcmmchpofkoddaa.Ex
open Go.Proofs Go.Proofs.Ytcmmchpofkoddaa
set_option maxRecDepth 100000
set_option linter.unusedVariables false
set_option linter.unusedSimpArgs false
def stepL7o (op : Int) (x : I) (y : I) (v : I) (lo : Bool) (hi : Bool) (d : Int) : Bool × Bool := vL7i op 0 0 d x y [] v [y.1, y.2] (lo, hi)
def vL7o (op : Int) (x : I) (y : I) (v : I) (xs : List Int) (s : Bool × Bool) : Bool × Bool := xs.foldl (fun s d => stepL7o op x y v (s.1) (s.2) d) s
theorem runL7o (op : Int) (x : I) (y : I) (v : I) (xs : List Int) (hl : xs.length ≤ 4611686018427387904) (s : Bool × Bool) :
    go (iterM 0 keepL7o (FL7o 0) (xs.length + 1) (TL7o op 0 (xs.length : Nat) (s.1) (s.2))) (HL7o x y xs v) = some ((((2, TL7o op (xs.length : Nat) (xs.length : Nat) ((vL7o op x y v xs s).1) ((vL7o op x y v xs s).2)), HL7o x y xs v) : Out3)) := by
  have key := range_loop (keep := keepL7o) (F := FL7o 0) xs (fun i s => TL7o op (i : Nat) (xs.length : Nat) (s.1) (s.2)) (fun i s => HL7o x y xs v) (fun _ s d => .inl (stepL7o op x y v (s.1) (s.2) d)) (fun s => (((2, TL7o op (xs.length : Nat) (xs.length : Nat) (s.1) (s.2)), HL7o x y xs v) : Out3)) ?_ ?_ ?_ ?_ xs 0 s rfl (Nat.zero_le _)
  · rw [runL_inl] at key
    exact key
  · intro i s d hi hd hm K
    skip
    rw [rnd7o]
    have e1 : decide ((i : Int) < ((xs.length : Nat) : Int)) = true := decide_eq_true (by omega)
    have e2 : decide (0 ≤ (i : Int)) = true := decide_eq_true (by omega)
    rw [e1, e2, Int.toNat_natCast, wrap_up hi hl]
    rw [hd]; obtain ⟨lo, hi⟩ := s; simp only [optC, cond_true]; rfl
  · intro i s d x e; cases e
  · intro s K
    rw [rnd7o]
    have e1 : decide (((xs.length : Nat) : Int) < ((xs.length : Nat) : Int)) = false := decide_eq_false (by omega)
    rw [e1]
    rfl
  · intro s; exact nofun
def dT7o : Tm → Option (Int × Int × Int × Bool × Bool)
  | [(4, .ptr 0 0), (5, .ptr 1 0), (0, .int .i64 op), (54, .int .i64 i), (53, .int .i64 n), (52, .row 2), (10, .bool lo), (7, .ptr 3 0), (11, .bool hi), (6, .bool false)] => some (op, i, n, lo, hi)
  | _ => none
def dH7o : Hp → Option (I × I × List Int × I)
  | ⟨[(0, .box [.int .i64 x1, .int .i64 x2]), (1, .box [.int .i64 y1, .int .i64 y2]), (2, .row (.int .i64) xs), (3, .box [.int .i64 v1, .int .i64 v2])], 4⟩ => some ((x1, x2), (y1, y2), xs, (v1, v2))
  | _ => none
theorem dT7o_some {T : Tm} {t : Int × Int × Int × Bool × Bool} (e : dT7o T = some t) : T = TL7o (t.1) (t.2.1) (t.2.2.1) (t.2.2.2.1) (t.2.2.2.2) := by
  unfold dT7o at e
  split at e
  · cases e; rfl
  · cases e
theorem dH7o_some {h : Hp} {u : I × I × List Int × I} (e : dH7o h = some u) : h = HL7o (u.1) (u.2.1) (u.2.2.1) (u.2.2.2) := by
  unfold dH7o at e
  split at e
  · cases e; rfl
  · cases e
def qL7o (base : Nat) (T : Tm) : Prog (Nat × Tm) := match base with
  | 0 => match dT7o T with
    | some t => loopA dH7o (fun u => ((t.2.1) == 0) && ((t.2.2.1) == ((u.2.2.1).length : Nat)) && decide (((u.2.2.1).length : Int) ≤ 4611686018427387904)) fun u => (((2, TL7o (t.1) ((u.2.2.1).length : Nat) ((u.2.2.1).length : Nat) ((vL7o (t.1) (u.1) (u.2.1) (u.2.2.2) (u.2.2.1) ((t.2.2.2.1), (t.2.2.2.2))).1) ((vL7o (t.1) (u.1) (u.2.1) (u.2.2.2) (u.2.2.1) ((t.2.2.2.1), (t.2.2.2.2))).2)), HL7o (u.1) (u.2.1) (u.2.2.1) (u.2.2.2)) : Out3)
    | none => .fail
  | _ + 1 => .fail
theorem qgo7o (base : Nat) (T : Tm) (h : Hp) (r : Nat × Tm) (h' : Hp) (e : go (qL7o base T) h = some (r, h')) : ∃ m, go (iterM base keepL7o (FL7o base) m T) h = some (r, h') := by
  unfold qL7o at e
  split at e
  · split at e
    · rename_i t ht
      obtain ⟨u, hu, c, e2⟩ := loopA_go e
      rw [dT7o_some ht, dH7o_some hu]
      simp only [Bool.and_eq_true, beq_iff_eq, decide_eq_true_eq] at c
      skip
      obtain ⟨⟨c1, c2⟩, c3⟩ := c
      refine ⟨(u.2.2.1).length + 1, ?_⟩
      rw [c1, c2]
      rw [e2]
      have := runL7o (t.1) (u.1) (u.2.1) (u.2.2.2) (u.2.2.1) (by omega) ((t.2.2.2.1), (t.2.2.2.2))
      exact this
    · cases e
  · cases e
noncomputable def lpL7o (base : Nat) (T : Tm) : Prog (Nat × Tm) := .norm base keepL7o T (qL7o base)
theorem sndL7o : SoundC Try.prog 106 (.loop (bodyX 7 0)) lpL7o :=
  loop_sound (cx := cxN) (cal := evF cxM keeps 3) (kp := keeps 7) (tabOk_of tab_ok) (cmpsOk_of tab_ok cmps_ok) calM mixed (hl7) qgo7o
end Go.Proofs.Ytcmmchpofkoddaa.Ex

