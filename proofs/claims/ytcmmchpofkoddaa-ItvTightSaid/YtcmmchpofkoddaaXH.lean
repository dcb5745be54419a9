/- A part of the proofs of the laws of intervals: XH. -/
import Derived.Test.YtcmmchpofkoddaaXG
import Derived.Test.YtcmmchpofkoddaaXC
/- Loops L: where each round begins. -/
namespace Go.Proofs.Ytcmmchpofkoddaa.Ex
open Go.Proofs Go.Proofs.Ytcmmchpofkoddaa
set_option maxRecDepth 100000
set_option linter.unusedVariables false
set_option linter.unusedSimpArgs false
def spL : Nat → Option (List AV → Prog AV)
  | 31 => some (specP true M31)
  | 20 => some (specP true M20)
  | 39 => some (specP true M39)
  | 51 => some (specP true M51)
  | 37 => some (specP true M37)
  | 38 => some (specP true M38)
  | 29 => some (specP true M29)
  | 23 => some (specP true M23)
  | 33 => some (specP true M33)
  | 58 => some (specP true M58)
  | 26 => some (specP true M26)
  | 27 => some (specP true M27)
  | 34 => some (specP true M34)
  | 24 => some (specP true M24)
  | 28 => some (specP true M28)
  | 57 => some (specP true M57)
  | 25 => some (specP true M25)
  | 21 => some (specP true M21)
  | 22 => some (specP true M22)
  | 41 => some (specP true M41)
  | 59 => some (specP true M59)
  | 50 => some (specP true M50)
  | 16 => some (specP true M16)
  | 35 => some (specP true M35)
  | 47 => some (specP true M47)
  | 52 => some (specP true M52)
  | 60 => some (specP true M60)
  | 55 => some (specP true M55)
  | 42 => some (specP true M42)
  | 43 => some (specP true M43)
  | 56 => some (specP true M56)
  | 40 => some (specP true M40)
  | 53 => some (specP true M53)
  | 49 => some (specP true M49)
  | 54 => some (specP true M54)
  | 45 => some (specP true M45)
  | 17 => some (specP true M17)
  | 18 => some (specP true M18)
  | 19 => some (specP true M19)
  | _ => none
noncomputable def cxL : Ctx := { tab := tab, spec := spL, inl := inl, lps := fun _ _ => none, fuel := 10 }
theorem hspL : ∀ g p, cxL.spec g = some p → SoundA Try.prog g p := by
  intro g p h
  change spL g = some p at h
  unfold spL at h
  split at h
  · cases h; exact snd31
  · cases h; exact snd20
  · cases h; exact snd39
  · cases h; exact snd51
  · cases h; exact snd37
  · cases h; exact snd38
  · cases h; exact snd29
  · cases h; exact snd23
  · cases h; exact snd33
  · cases h; exact snd58
  · cases h; exact snd26
  · cases h; exact snd27
  · cases h; exact snd34
  · cases h; exact snd24
  · cases h; exact snd28
  · cases h; exact snd57
  · cases h; exact snd25
  · cases h; exact snd21
  · cases h; exact snd22
  · cases h; exact snd41
  · cases h; exact snd59
  · cases h; exact snd50
  · cases h; exact snd16
  · cases h; exact snd35
  · cases h; exact snd47
  · cases h; exact snd52
  · cases h; exact snd60
  · cases h; exact snd55
  · cases h; exact snd42
  · cases h; exact snd43
  · cases h; exact snd56
  · cases h; exact snd40
  · cases h; exact snd53
  · cases h; exact snd49
  · cases h; exact snd54
  · cases h; exact snd45
  · cases h; exact snd17
  · cases h; exact snd18
  · cases h; exact snd19
  · cases h
theorem inL : InlOk Try.prog cxL := ⟨inl_ok, fun _ _ _ _ _ _ _ _ h => nomatch h⟩
theorem calL : CalOk Try.prog (evF cxL keeps 3) := fun g => evF_sound (tabOk_of tab_ok) (cmpsOk_of tab_ok cmps_ok) mixed inL hspL keeps 3 g
noncomputable def bodyX (g b : Nat) : Code := ((inl g).bind (·.body)).elim .skip (lpx · b)
def keepL30 : List Nat := [9, 8, 7, 3, 2]
noncomputable def FL30 (base : Nat) : Tm → Prog (Nat × Tm) := evC cxL (evF cxL keeps 3) ⟨30, 24, keeps 30, base⟩ 0 (bodyX 30 0)
def TL30 (i : Int) (n : Int) (l : List Int) : Tm := [(9, .int .i64 i), (8, .int .i64 n), (7, .sl (.int .i64) l), (3, .ptr 0 0), (2, .ptr 1 0)]
def HL30 (a : I) (r : I) : Hp := ⟨[(0, .box [.int .i64 a.1, .int .i64 a.2]), (1, .box [.int .i64 r.1, .int .i64 r.2])], 2⟩
def keepL36 : List Nat := [4, 0, 3, 2]
noncomputable def FL36 (base : Nat) : Tm → Prog (Nat × Tm) := evC cxL (evF cxL keeps 3) ⟨36, 25, keeps 36, base⟩ 0 (bodyX 36 0)
def TL36 (i : Int) (l : List Int) : Tm := [(4, .int .i64 i), (0, .sl (.int .i64) l), (3, .ptr 0 0), (2, .ptr 1 0)]
def HL36 (a : I) (r : I) : Hp := ⟨[(0, .box [.int .i64 a.1, .int .i64 a.2]), (1, .box [.int .i64 r.1, .int .i64 r.2])], 2⟩
def keepL44 : List Nat := [4, 3, 6, 26, 25, 24, 7, 8, 9]
noncomputable def FL44 (base : Nat) : Tm → Prog (Nat × Tm) := evC cxL (evF cxL keeps 3) ⟨44, 64, keeps 44, base⟩ 1 (bodyX 44 1)
def TL44 (i : Int) (n : Int) (l : List Int) (lo : Int) (hi : Int) : Tm := [(4, .ptr 0 0), (3, .ptr 1 0), (6, .ptr 2 0), (26, .int .i64 i), (25, .int .i64 n), (24, .sl (.int .i64) l), (7, .ptr 3 0), (8, .int .i64 lo), (9, .int .i64 hi)]
def HL44 (y : I) (x : I) (r : I) (z : I) : Hp := ⟨[(0, .box [.int .i64 y.1, .int .i64 y.2]), (1, .box [.int .i64 x.1, .int .i64 x.2]), (2, .box [.int .i64 r.1, .int .i64 r.2]), (3, .box [.int .i64 z.1, .int .i64 z.2])], 4⟩
def keepL46 : List Nat := [4, 3, 6, 10, 2, 7, 8, 9]
noncomputable def FL46 (base : Nat) : Tm → Prog (Nat × Tm) := evC cxL (evF cxL keeps 3) ⟨46, 66, keeps 46, base⟩ 0 (bodyX 46 0)
def TL46 (i : Int) (l : List Int) (lo : Int) (hi : Int) : Tm := [(4, .ptr 0 0), (3, .ptr 1 0), (6, .ptr 2 0), (10, .int .i64 i), (2, .sl (.int .i64) l), (7, .ptr 3 0), (8, .int .i64 lo), (9, .int .i64 hi)]
def HL46 (y : I) (x : I) (r : I) (z : I) : Hp := ⟨[(0, .box [.int .i64 y.1, .int .i64 y.2]), (1, .box [.int .i64 x.1, .int .i64 x.2]), (2, .box [.int .i64 r.1, .int .i64 r.2]), (3, .box [.int .i64 z.1, .int .i64 z.2])], 4⟩
end Go.Proofs.Ytcmmchpofkoddaa.Ex

/- Loops L: each round. -/
namespace Go.Proofs.Ytcmmchpofkoddaa.Ex
open Go.Proofs Go.Proofs.Ytcmmchpofkoddaa
set_option maxRecDepth 100000
set_option linter.unusedVariables false
set_option linter.unusedSimpArgs false
theorem rnd30 {R : Type} (i : Int) (n : Int) (l : List Int) (a : I) (r : I) (K : Nat → Tm → Hp → Option R) : round 0 keepL30 (FL30 0) (TL30 i n l) (HL30 a r) K =
  bif Decidable.decide (i < n) then
    bif Decidable.decide (0 ≤ i) then
      Go.Proofs.Ytcmmchpofkoddaa.Ex.optC l[i.toNat]? Option.none fun d7 ↦
        bif Go.Proofs.Ytcmmchpofkoddaa.Ex.fitB d7 then
          K 0
            [(9, Go.Proofs.Ytcmmchpofkoddaa.Ex.AV.int Go.IntKind.i64 (Go.IntKind.i64.wrap (i + 1))), (8, Go.Proofs.Ytcmmchpofkoddaa.Ex.AV.int Go.IntKind.i64 n), (7, Go.Proofs.Ytcmmchpofkoddaa.Ex.AV.sl (Go.Proofs.Ytcmmchpofkoddaa.Ex.Ty.int Go.IntKind.i64) l), (3, Go.Proofs.Ytcmmchpofkoddaa.Ex.AV.ptr 0 0),
              (2, Go.Proofs.Ytcmmchpofkoddaa.Ex.AV.ptr 1 0)]
            {
              blks :=
                [(0, Go.Proofs.Ytcmmchpofkoddaa.Ex.Blk.box [Go.Proofs.Ytcmmchpofkoddaa.Ex.AV.int Go.IntKind.i64 (Go.Proofs.Ytcmmchpofkoddaa.Ex.iJoin a (d7, d7)).fst, Go.Proofs.Ytcmmchpofkoddaa.Ex.AV.int Go.IntKind.i64 (Go.Proofs.Ytcmmchpofkoddaa.Ex.iJoin a (d7, d7)).snd]),
                  (1, Go.Proofs.Ytcmmchpofkoddaa.Ex.Blk.box [Go.Proofs.Ytcmmchpofkoddaa.Ex.AV.int Go.IntKind.i64 r.fst, Go.Proofs.Ytcmmchpofkoddaa.Ex.AV.int Go.IntKind.i64 r.snd])],
              c := 2 }
        else
          K 0
            [(9, Go.Proofs.Ytcmmchpofkoddaa.Ex.AV.int Go.IntKind.i64 (Go.IntKind.i64.wrap (i + 1))), (8, Go.Proofs.Ytcmmchpofkoddaa.Ex.AV.int Go.IntKind.i64 n), (7, Go.Proofs.Ytcmmchpofkoddaa.Ex.AV.sl (Go.Proofs.Ytcmmchpofkoddaa.Ex.Ty.int Go.IntKind.i64) l), (3, Go.Proofs.Ytcmmchpofkoddaa.Ex.AV.ptr 0 0),
              (2, Go.Proofs.Ytcmmchpofkoddaa.Ex.AV.ptr 1 0)]
            {
              blks :=
                [(0, Go.Proofs.Ytcmmchpofkoddaa.Ex.Blk.box [Go.Proofs.Ytcmmchpofkoddaa.Ex.AV.int Go.IntKind.i64 a.fst, Go.Proofs.Ytcmmchpofkoddaa.Ex.AV.int Go.IntKind.i64 a.snd]), (1, Go.Proofs.Ytcmmchpofkoddaa.Ex.Blk.box [Go.Proofs.Ytcmmchpofkoddaa.Ex.AV.int Go.IntKind.i64 r.fst, Go.Proofs.Ytcmmchpofkoddaa.Ex.AV.int Go.IntKind.i64 r.snd])],
              c := 2 }
    else Option.none
  else
    K 2 [(9, Go.Proofs.Ytcmmchpofkoddaa.Ex.AV.int Go.IntKind.i64 i), (8, Go.Proofs.Ytcmmchpofkoddaa.Ex.AV.int Go.IntKind.i64 n), (7, Go.Proofs.Ytcmmchpofkoddaa.Ex.AV.sl (Go.Proofs.Ytcmmchpofkoddaa.Ex.Ty.int Go.IntKind.i64) l), (3, Go.Proofs.Ytcmmchpofkoddaa.Ex.AV.ptr 0 0), (2, Go.Proofs.Ytcmmchpofkoddaa.Ex.AV.ptr 1 0)]
      { blks := [(0, Go.Proofs.Ytcmmchpofkoddaa.Ex.Blk.box [Go.Proofs.Ytcmmchpofkoddaa.Ex.AV.int Go.IntKind.i64 a.fst, Go.Proofs.Ytcmmchpofkoddaa.Ex.AV.int Go.IntKind.i64 a.snd]), (1, Go.Proofs.Ytcmmchpofkoddaa.Ex.Blk.box [Go.Proofs.Ytcmmchpofkoddaa.Ex.AV.int Go.IntKind.i64 r.fst, Go.Proofs.Ytcmmchpofkoddaa.Ex.AV.int Go.IntKind.i64 r.snd])],
        c := 2 } := by kernel_rfl
theorem rnd36 {R : Type} (i : Int) (l : List Int) (a : I) (r : I) (K : Nat → Tm → Hp → Option R) : round 0 keepL36 (FL36 0) (TL36 i l) (HL36 a r) K =
  bif Decidable.decide (i < ↑l.length) then
    bif Decidable.decide (0 ≤ i) then
      Go.Proofs.Ytcmmchpofkoddaa.Ex.optC l[i.toNat]? Option.none fun d6 ↦
        bif Go.Proofs.Ytcmmchpofkoddaa.Ex.fitB d6 then
          bif Decidable.decide (0 ≤ i) then
            Go.Proofs.Ytcmmchpofkoddaa.Ex.optC l[i.toNat]? Option.none fun d7 ↦
              K 0 [(4, Go.Proofs.Ytcmmchpofkoddaa.Ex.AV.int Go.IntKind.i64 (Go.IntKind.i64.wrap (i + 1))), (0, Go.Proofs.Ytcmmchpofkoddaa.Ex.AV.sl (Go.Proofs.Ytcmmchpofkoddaa.Ex.Ty.int Go.IntKind.i64) l), (3, Go.Proofs.Ytcmmchpofkoddaa.Ex.AV.ptr 0 0), (2, Go.Proofs.Ytcmmchpofkoddaa.Ex.AV.ptr 1 0)]
                {
                  blks :=
                    [(0, Go.Proofs.Ytcmmchpofkoddaa.Ex.Blk.box [Go.Proofs.Ytcmmchpofkoddaa.Ex.AV.int Go.IntKind.i64 (Go.Proofs.Ytcmmchpofkoddaa.Ex.rJoin a (d7, d7)).fst, Go.Proofs.Ytcmmchpofkoddaa.Ex.AV.int Go.IntKind.i64 (Go.Proofs.Ytcmmchpofkoddaa.Ex.rJoin a (d7, d7)).snd]),
                      (1, Go.Proofs.Ytcmmchpofkoddaa.Ex.Blk.box [Go.Proofs.Ytcmmchpofkoddaa.Ex.AV.int Go.IntKind.i64 r.fst, Go.Proofs.Ytcmmchpofkoddaa.Ex.AV.int Go.IntKind.i64 r.snd])],
                  c := 2 }
          else Option.none
        else
          K 0 [(4, Go.Proofs.Ytcmmchpofkoddaa.Ex.AV.int Go.IntKind.i64 (Go.IntKind.i64.wrap (i + 1))), (0, Go.Proofs.Ytcmmchpofkoddaa.Ex.AV.sl (Go.Proofs.Ytcmmchpofkoddaa.Ex.Ty.int Go.IntKind.i64) l), (3, Go.Proofs.Ytcmmchpofkoddaa.Ex.AV.ptr 0 0), (2, Go.Proofs.Ytcmmchpofkoddaa.Ex.AV.ptr 1 0)]
            {
              blks :=
                [(0, Go.Proofs.Ytcmmchpofkoddaa.Ex.Blk.box [Go.Proofs.Ytcmmchpofkoddaa.Ex.AV.int Go.IntKind.i64 a.fst, Go.Proofs.Ytcmmchpofkoddaa.Ex.AV.int Go.IntKind.i64 a.snd]), (1, Go.Proofs.Ytcmmchpofkoddaa.Ex.Blk.box [Go.Proofs.Ytcmmchpofkoddaa.Ex.AV.int Go.IntKind.i64 r.fst, Go.Proofs.Ytcmmchpofkoddaa.Ex.AV.int Go.IntKind.i64 r.snd])],
              c := 2 }
    else Option.none
  else
    K 2 [(4, Go.Proofs.Ytcmmchpofkoddaa.Ex.AV.int Go.IntKind.i64 i), (0, Go.Proofs.Ytcmmchpofkoddaa.Ex.AV.sl (Go.Proofs.Ytcmmchpofkoddaa.Ex.Ty.int Go.IntKind.i64) l), (3, Go.Proofs.Ytcmmchpofkoddaa.Ex.AV.ptr 0 0), (2, Go.Proofs.Ytcmmchpofkoddaa.Ex.AV.ptr 1 0)]
      { blks := [(0, Go.Proofs.Ytcmmchpofkoddaa.Ex.Blk.box [Go.Proofs.Ytcmmchpofkoddaa.Ex.AV.int Go.IntKind.i64 a.fst, Go.Proofs.Ytcmmchpofkoddaa.Ex.AV.int Go.IntKind.i64 a.snd]), (1, Go.Proofs.Ytcmmchpofkoddaa.Ex.Blk.box [Go.Proofs.Ytcmmchpofkoddaa.Ex.AV.int Go.IntKind.i64 r.fst, Go.Proofs.Ytcmmchpofkoddaa.Ex.AV.int Go.IntKind.i64 r.snd])],
        c := 2 } := by kernel_rfl
theorem rnd44 {R : Type} (i : Int) (n : Int) (l : List Int) (lo : Int) (hi : Int) (y : I) (x : I) (r : I) (z : I) (K : Nat → Tm → Hp → Option R) : round 0 keepL44 (FL44 0) (TL44 i n l lo hi) (HL44 y x r z) K =
  bif Decidable.decide (i < n) then
    bif Decidable.decide (0 ≤ i) then
      Go.Proofs.Ytcmmchpofkoddaa.Ex.optC l[i.toNat]? Option.none fun d11 ↦
        bif !Go.Proofs.Ytcmmchpofkoddaa.Ex.fitB d11 then
          K 0
            [(4, Go.Proofs.Ytcmmchpofkoddaa.Ex.AV.ptr 0 0), (3, Go.Proofs.Ytcmmchpofkoddaa.Ex.AV.ptr 1 0), (6, Go.Proofs.Ytcmmchpofkoddaa.Ex.AV.ptr 2 0), (26, Go.Proofs.Ytcmmchpofkoddaa.Ex.AV.int Go.IntKind.i64 (Go.IntKind.i64.wrap (i + 1))), (25, Go.Proofs.Ytcmmchpofkoddaa.Ex.AV.int Go.IntKind.i64 n),
              (24, Go.Proofs.Ytcmmchpofkoddaa.Ex.AV.sl (Go.Proofs.Ytcmmchpofkoddaa.Ex.Ty.int Go.IntKind.i64) l), (7, Go.Proofs.Ytcmmchpofkoddaa.Ex.AV.ptr 3 0), (8, Go.Proofs.Ytcmmchpofkoddaa.Ex.AV.int Go.IntKind.i64 lo), (9, Go.Proofs.Ytcmmchpofkoddaa.Ex.AV.int Go.IntKind.i64 hi)]
            {
              blks :=
                [(0, Go.Proofs.Ytcmmchpofkoddaa.Ex.Blk.box [Go.Proofs.Ytcmmchpofkoddaa.Ex.AV.int Go.IntKind.i64 y.fst, Go.Proofs.Ytcmmchpofkoddaa.Ex.AV.int Go.IntKind.i64 y.snd]), (1, Go.Proofs.Ytcmmchpofkoddaa.Ex.Blk.box [Go.Proofs.Ytcmmchpofkoddaa.Ex.AV.int Go.IntKind.i64 x.fst, Go.Proofs.Ytcmmchpofkoddaa.Ex.AV.int Go.IntKind.i64 x.snd]),
                  (2, Go.Proofs.Ytcmmchpofkoddaa.Ex.Blk.box [Go.Proofs.Ytcmmchpofkoddaa.Ex.AV.int Go.IntKind.i64 r.fst, Go.Proofs.Ytcmmchpofkoddaa.Ex.AV.int Go.IntKind.i64 r.snd]), (3, Go.Proofs.Ytcmmchpofkoddaa.Ex.Blk.box [Go.Proofs.Ytcmmchpofkoddaa.Ex.AV.int Go.IntKind.i64 z.fst, Go.Proofs.Ytcmmchpofkoddaa.Ex.AV.int Go.IntKind.i64 z.snd])],
              c := 4 }
        else
          bif Decidable.decide (d11 ≤ z.fst) then
            bif Decidable.decide (d11 ≥ z.snd) then
              K 0
                [(4, Go.Proofs.Ytcmmchpofkoddaa.Ex.AV.ptr 0 0), (3, Go.Proofs.Ytcmmchpofkoddaa.Ex.AV.ptr 1 0), (6, Go.Proofs.Ytcmmchpofkoddaa.Ex.AV.ptr 2 0), (26, Go.Proofs.Ytcmmchpofkoddaa.Ex.AV.int Go.IntKind.i64 (Go.IntKind.i64.wrap (i + 1))), (25, Go.Proofs.Ytcmmchpofkoddaa.Ex.AV.int Go.IntKind.i64 n),
                  (24, Go.Proofs.Ytcmmchpofkoddaa.Ex.AV.sl (Go.Proofs.Ytcmmchpofkoddaa.Ex.Ty.int Go.IntKind.i64) l), (7, Go.Proofs.Ytcmmchpofkoddaa.Ex.AV.ptr 3 0), (8, Go.Proofs.Ytcmmchpofkoddaa.Ex.AV.int Go.IntKind.i64 (if d11 > lo then d11 else lo)),
                  (9, Go.Proofs.Ytcmmchpofkoddaa.Ex.AV.int Go.IntKind.i64 (if d11 < hi then d11 else hi))]
                {
                  blks :=
                    [(0, Go.Proofs.Ytcmmchpofkoddaa.Ex.Blk.box [Go.Proofs.Ytcmmchpofkoddaa.Ex.AV.int Go.IntKind.i64 y.fst, Go.Proofs.Ytcmmchpofkoddaa.Ex.AV.int Go.IntKind.i64 y.snd]), (1, Go.Proofs.Ytcmmchpofkoddaa.Ex.Blk.box [Go.Proofs.Ytcmmchpofkoddaa.Ex.AV.int Go.IntKind.i64 x.fst, Go.Proofs.Ytcmmchpofkoddaa.Ex.AV.int Go.IntKind.i64 x.snd]),
                      (2, Go.Proofs.Ytcmmchpofkoddaa.Ex.Blk.box [Go.Proofs.Ytcmmchpofkoddaa.Ex.AV.int Go.IntKind.i64 r.fst, Go.Proofs.Ytcmmchpofkoddaa.Ex.AV.int Go.IntKind.i64 r.snd]),
                      (3, Go.Proofs.Ytcmmchpofkoddaa.Ex.Blk.box [Go.Proofs.Ytcmmchpofkoddaa.Ex.AV.int Go.IntKind.i64 z.fst, Go.Proofs.Ytcmmchpofkoddaa.Ex.AV.int Go.IntKind.i64 z.snd])],
                  c := 4 }
            else
              K 0
                [(4, Go.Proofs.Ytcmmchpofkoddaa.Ex.AV.ptr 0 0), (3, Go.Proofs.Ytcmmchpofkoddaa.Ex.AV.ptr 1 0), (6, Go.Proofs.Ytcmmchpofkoddaa.Ex.AV.ptr 2 0), (26, Go.Proofs.Ytcmmchpofkoddaa.Ex.AV.int Go.IntKind.i64 (Go.IntKind.i64.wrap (i + 1))), (25, Go.Proofs.Ytcmmchpofkoddaa.Ex.AV.int Go.IntKind.i64 n),
                  (24, Go.Proofs.Ytcmmchpofkoddaa.Ex.AV.sl (Go.Proofs.Ytcmmchpofkoddaa.Ex.Ty.int Go.IntKind.i64) l), (7, Go.Proofs.Ytcmmchpofkoddaa.Ex.AV.ptr 3 0), (8, Go.Proofs.Ytcmmchpofkoddaa.Ex.AV.int Go.IntKind.i64 (if d11 > lo then d11 else lo)), (9, Go.Proofs.Ytcmmchpofkoddaa.Ex.AV.int Go.IntKind.i64 hi)]
                {
                  blks :=
                    [(0, Go.Proofs.Ytcmmchpofkoddaa.Ex.Blk.box [Go.Proofs.Ytcmmchpofkoddaa.Ex.AV.int Go.IntKind.i64 y.fst, Go.Proofs.Ytcmmchpofkoddaa.Ex.AV.int Go.IntKind.i64 y.snd]), (1, Go.Proofs.Ytcmmchpofkoddaa.Ex.Blk.box [Go.Proofs.Ytcmmchpofkoddaa.Ex.AV.int Go.IntKind.i64 x.fst, Go.Proofs.Ytcmmchpofkoddaa.Ex.AV.int Go.IntKind.i64 x.snd]),
                      (2, Go.Proofs.Ytcmmchpofkoddaa.Ex.Blk.box [Go.Proofs.Ytcmmchpofkoddaa.Ex.AV.int Go.IntKind.i64 r.fst, Go.Proofs.Ytcmmchpofkoddaa.Ex.AV.int Go.IntKind.i64 r.snd]),
                      (3, Go.Proofs.Ytcmmchpofkoddaa.Ex.Blk.box [Go.Proofs.Ytcmmchpofkoddaa.Ex.AV.int Go.IntKind.i64 z.fst, Go.Proofs.Ytcmmchpofkoddaa.Ex.AV.int Go.IntKind.i64 z.snd])],
                  c := 4 }
          else
            bif Decidable.decide (d11 ≥ z.snd) then
              K 0
                [(4, Go.Proofs.Ytcmmchpofkoddaa.Ex.AV.ptr 0 0), (3, Go.Proofs.Ytcmmchpofkoddaa.Ex.AV.ptr 1 0), (6, Go.Proofs.Ytcmmchpofkoddaa.Ex.AV.ptr 2 0), (26, Go.Proofs.Ytcmmchpofkoddaa.Ex.AV.int Go.IntKind.i64 (Go.IntKind.i64.wrap (i + 1))), (25, Go.Proofs.Ytcmmchpofkoddaa.Ex.AV.int Go.IntKind.i64 n),
                  (24, Go.Proofs.Ytcmmchpofkoddaa.Ex.AV.sl (Go.Proofs.Ytcmmchpofkoddaa.Ex.Ty.int Go.IntKind.i64) l), (7, Go.Proofs.Ytcmmchpofkoddaa.Ex.AV.ptr 3 0), (8, Go.Proofs.Ytcmmchpofkoddaa.Ex.AV.int Go.IntKind.i64 lo), (9, Go.Proofs.Ytcmmchpofkoddaa.Ex.AV.int Go.IntKind.i64 (if d11 < hi then d11 else hi))]
                {
                  blks :=
                    [(0, Go.Proofs.Ytcmmchpofkoddaa.Ex.Blk.box [Go.Proofs.Ytcmmchpofkoddaa.Ex.AV.int Go.IntKind.i64 y.fst, Go.Proofs.Ytcmmchpofkoddaa.Ex.AV.int Go.IntKind.i64 y.snd]), (1, Go.Proofs.Ytcmmchpofkoddaa.Ex.Blk.box [Go.Proofs.Ytcmmchpofkoddaa.Ex.AV.int Go.IntKind.i64 x.fst, Go.Proofs.Ytcmmchpofkoddaa.Ex.AV.int Go.IntKind.i64 x.snd]),
                      (2, Go.Proofs.Ytcmmchpofkoddaa.Ex.Blk.box [Go.Proofs.Ytcmmchpofkoddaa.Ex.AV.int Go.IntKind.i64 r.fst, Go.Proofs.Ytcmmchpofkoddaa.Ex.AV.int Go.IntKind.i64 r.snd]),
                      (3, Go.Proofs.Ytcmmchpofkoddaa.Ex.Blk.box [Go.Proofs.Ytcmmchpofkoddaa.Ex.AV.int Go.IntKind.i64 z.fst, Go.Proofs.Ytcmmchpofkoddaa.Ex.AV.int Go.IntKind.i64 z.snd])],
                  c := 4 }
            else
              K 0
                [(4, Go.Proofs.Ytcmmchpofkoddaa.Ex.AV.ptr 0 0), (3, Go.Proofs.Ytcmmchpofkoddaa.Ex.AV.ptr 1 0), (6, Go.Proofs.Ytcmmchpofkoddaa.Ex.AV.ptr 2 0), (26, Go.Proofs.Ytcmmchpofkoddaa.Ex.AV.int Go.IntKind.i64 (Go.IntKind.i64.wrap (i + 1))), (25, Go.Proofs.Ytcmmchpofkoddaa.Ex.AV.int Go.IntKind.i64 n),
                  (24, Go.Proofs.Ytcmmchpofkoddaa.Ex.AV.sl (Go.Proofs.Ytcmmchpofkoddaa.Ex.Ty.int Go.IntKind.i64) l), (7, Go.Proofs.Ytcmmchpofkoddaa.Ex.AV.ptr 3 0), (8, Go.Proofs.Ytcmmchpofkoddaa.Ex.AV.int Go.IntKind.i64 lo), (9, Go.Proofs.Ytcmmchpofkoddaa.Ex.AV.int Go.IntKind.i64 hi)]
                {
                  blks :=
                    [(0, Go.Proofs.Ytcmmchpofkoddaa.Ex.Blk.box [Go.Proofs.Ytcmmchpofkoddaa.Ex.AV.int Go.IntKind.i64 y.fst, Go.Proofs.Ytcmmchpofkoddaa.Ex.AV.int Go.IntKind.i64 y.snd]), (1, Go.Proofs.Ytcmmchpofkoddaa.Ex.Blk.box [Go.Proofs.Ytcmmchpofkoddaa.Ex.AV.int Go.IntKind.i64 x.fst, Go.Proofs.Ytcmmchpofkoddaa.Ex.AV.int Go.IntKind.i64 x.snd]),
                      (2, Go.Proofs.Ytcmmchpofkoddaa.Ex.Blk.box [Go.Proofs.Ytcmmchpofkoddaa.Ex.AV.int Go.IntKind.i64 r.fst, Go.Proofs.Ytcmmchpofkoddaa.Ex.AV.int Go.IntKind.i64 r.snd]),
                      (3, Go.Proofs.Ytcmmchpofkoddaa.Ex.Blk.box [Go.Proofs.Ytcmmchpofkoddaa.Ex.AV.int Go.IntKind.i64 z.fst, Go.Proofs.Ytcmmchpofkoddaa.Ex.AV.int Go.IntKind.i64 z.snd])],
                  c := 4 }
    else Option.none
  else
    K 3
      [(4, Go.Proofs.Ytcmmchpofkoddaa.Ex.AV.ptr 0 0), (3, Go.Proofs.Ytcmmchpofkoddaa.Ex.AV.ptr 1 0), (6, Go.Proofs.Ytcmmchpofkoddaa.Ex.AV.ptr 2 0), (26, Go.Proofs.Ytcmmchpofkoddaa.Ex.AV.int Go.IntKind.i64 i), (25, Go.Proofs.Ytcmmchpofkoddaa.Ex.AV.int Go.IntKind.i64 n), (24, Go.Proofs.Ytcmmchpofkoddaa.Ex.AV.sl (Go.Proofs.Ytcmmchpofkoddaa.Ex.Ty.int Go.IntKind.i64) l),
        (7, Go.Proofs.Ytcmmchpofkoddaa.Ex.AV.ptr 3 0), (8, Go.Proofs.Ytcmmchpofkoddaa.Ex.AV.int Go.IntKind.i64 lo), (9, Go.Proofs.Ytcmmchpofkoddaa.Ex.AV.int Go.IntKind.i64 hi)]
      {
        blks :=
          [(0, Go.Proofs.Ytcmmchpofkoddaa.Ex.Blk.box [Go.Proofs.Ytcmmchpofkoddaa.Ex.AV.int Go.IntKind.i64 y.fst, Go.Proofs.Ytcmmchpofkoddaa.Ex.AV.int Go.IntKind.i64 y.snd]), (1, Go.Proofs.Ytcmmchpofkoddaa.Ex.Blk.box [Go.Proofs.Ytcmmchpofkoddaa.Ex.AV.int Go.IntKind.i64 x.fst, Go.Proofs.Ytcmmchpofkoddaa.Ex.AV.int Go.IntKind.i64 x.snd]),
            (2, Go.Proofs.Ytcmmchpofkoddaa.Ex.Blk.box [Go.Proofs.Ytcmmchpofkoddaa.Ex.AV.int Go.IntKind.i64 r.fst, Go.Proofs.Ytcmmchpofkoddaa.Ex.AV.int Go.IntKind.i64 r.snd]), (3, Go.Proofs.Ytcmmchpofkoddaa.Ex.Blk.box [Go.Proofs.Ytcmmchpofkoddaa.Ex.AV.int Go.IntKind.i64 z.fst, Go.Proofs.Ytcmmchpofkoddaa.Ex.AV.int Go.IntKind.i64 z.snd])],
        c := 4 } := by kernel_rfl
theorem rnd46 {R : Type} (i : Int) (l : List Int) (lo : Int) (hi : Int) (y : I) (x : I) (r : I) (z : I) (K : Nat → Tm → Hp → Option R) : round 0 keepL46 (FL46 0) (TL46 i l lo hi) (HL46 y x r z) K =
  bif Decidable.decide (i < ↑l.length) then
    bif Decidable.decide (0 ≤ i) then
      Go.Proofs.Ytcmmchpofkoddaa.Ex.optC l[i.toNat]? Option.none fun d10 ↦
        bif Decidable.decide (d10 ≤ z.fst) then
          bif Decidable.decide (d10 > lo) then
            bif Decidable.decide (d10 ≥ z.snd) then
              bif Decidable.decide (d10 < hi) then
                K 0
                  [(4, Go.Proofs.Ytcmmchpofkoddaa.Ex.AV.ptr 0 0), (3, Go.Proofs.Ytcmmchpofkoddaa.Ex.AV.ptr 1 0), (6, Go.Proofs.Ytcmmchpofkoddaa.Ex.AV.ptr 2 0), (10, Go.Proofs.Ytcmmchpofkoddaa.Ex.AV.int Go.IntKind.i64 (Go.IntKind.i64.wrap (i + 1))), (2, Go.Proofs.Ytcmmchpofkoddaa.Ex.AV.sl (Go.Proofs.Ytcmmchpofkoddaa.Ex.Ty.int Go.IntKind.i64) l),
                    (7, Go.Proofs.Ytcmmchpofkoddaa.Ex.AV.ptr 3 0), (8, Go.Proofs.Ytcmmchpofkoddaa.Ex.AV.int Go.IntKind.i64 d10), (9, Go.Proofs.Ytcmmchpofkoddaa.Ex.AV.int Go.IntKind.i64 d10)]
                  {
                    blks :=
                      [(0, Go.Proofs.Ytcmmchpofkoddaa.Ex.Blk.box [Go.Proofs.Ytcmmchpofkoddaa.Ex.AV.int Go.IntKind.i64 y.fst, Go.Proofs.Ytcmmchpofkoddaa.Ex.AV.int Go.IntKind.i64 y.snd]),
                        (1, Go.Proofs.Ytcmmchpofkoddaa.Ex.Blk.box [Go.Proofs.Ytcmmchpofkoddaa.Ex.AV.int Go.IntKind.i64 x.fst, Go.Proofs.Ytcmmchpofkoddaa.Ex.AV.int Go.IntKind.i64 x.snd]),
                        (2, Go.Proofs.Ytcmmchpofkoddaa.Ex.Blk.box [Go.Proofs.Ytcmmchpofkoddaa.Ex.AV.int Go.IntKind.i64 r.fst, Go.Proofs.Ytcmmchpofkoddaa.Ex.AV.int Go.IntKind.i64 r.snd]),
                        (3, Go.Proofs.Ytcmmchpofkoddaa.Ex.Blk.box [Go.Proofs.Ytcmmchpofkoddaa.Ex.AV.int Go.IntKind.i64 z.fst, Go.Proofs.Ytcmmchpofkoddaa.Ex.AV.int Go.IntKind.i64 z.snd])],
                    c := 4 }
              else
                K 0
                  [(4, Go.Proofs.Ytcmmchpofkoddaa.Ex.AV.ptr 0 0), (3, Go.Proofs.Ytcmmchpofkoddaa.Ex.AV.ptr 1 0), (6, Go.Proofs.Ytcmmchpofkoddaa.Ex.AV.ptr 2 0), (10, Go.Proofs.Ytcmmchpofkoddaa.Ex.AV.int Go.IntKind.i64 (Go.IntKind.i64.wrap (i + 1))), (2, Go.Proofs.Ytcmmchpofkoddaa.Ex.AV.sl (Go.Proofs.Ytcmmchpofkoddaa.Ex.Ty.int Go.IntKind.i64) l),
                    (7, Go.Proofs.Ytcmmchpofkoddaa.Ex.AV.ptr 3 0), (8, Go.Proofs.Ytcmmchpofkoddaa.Ex.AV.int Go.IntKind.i64 d10), (9, Go.Proofs.Ytcmmchpofkoddaa.Ex.AV.int Go.IntKind.i64 hi)]
                  {
                    blks :=
                      [(0, Go.Proofs.Ytcmmchpofkoddaa.Ex.Blk.box [Go.Proofs.Ytcmmchpofkoddaa.Ex.AV.int Go.IntKind.i64 y.fst, Go.Proofs.Ytcmmchpofkoddaa.Ex.AV.int Go.IntKind.i64 y.snd]),
                        (1, Go.Proofs.Ytcmmchpofkoddaa.Ex.Blk.box [Go.Proofs.Ytcmmchpofkoddaa.Ex.AV.int Go.IntKind.i64 x.fst, Go.Proofs.Ytcmmchpofkoddaa.Ex.AV.int Go.IntKind.i64 x.snd]),
                        (2, Go.Proofs.Ytcmmchpofkoddaa.Ex.Blk.box [Go.Proofs.Ytcmmchpofkoddaa.Ex.AV.int Go.IntKind.i64 r.fst, Go.Proofs.Ytcmmchpofkoddaa.Ex.AV.int Go.IntKind.i64 r.snd]),
                        (3, Go.Proofs.Ytcmmchpofkoddaa.Ex.Blk.box [Go.Proofs.Ytcmmchpofkoddaa.Ex.AV.int Go.IntKind.i64 z.fst, Go.Proofs.Ytcmmchpofkoddaa.Ex.AV.int Go.IntKind.i64 z.snd])],
                    c := 4 }
            else
              K 0
                [(4, Go.Proofs.Ytcmmchpofkoddaa.Ex.AV.ptr 0 0), (3, Go.Proofs.Ytcmmchpofkoddaa.Ex.AV.ptr 1 0), (6, Go.Proofs.Ytcmmchpofkoddaa.Ex.AV.ptr 2 0), (10, Go.Proofs.Ytcmmchpofkoddaa.Ex.AV.int Go.IntKind.i64 (Go.IntKind.i64.wrap (i + 1))), (2, Go.Proofs.Ytcmmchpofkoddaa.Ex.AV.sl (Go.Proofs.Ytcmmchpofkoddaa.Ex.Ty.int Go.IntKind.i64) l),
                  (7, Go.Proofs.Ytcmmchpofkoddaa.Ex.AV.ptr 3 0), (8, Go.Proofs.Ytcmmchpofkoddaa.Ex.AV.int Go.IntKind.i64 d10), (9, Go.Proofs.Ytcmmchpofkoddaa.Ex.AV.int Go.IntKind.i64 hi)]
                {
                  blks :=
                    [(0, Go.Proofs.Ytcmmchpofkoddaa.Ex.Blk.box [Go.Proofs.Ytcmmchpofkoddaa.Ex.AV.int Go.IntKind.i64 y.fst, Go.Proofs.Ytcmmchpofkoddaa.Ex.AV.int Go.IntKind.i64 y.snd]), (1, Go.Proofs.Ytcmmchpofkoddaa.Ex.Blk.box [Go.Proofs.Ytcmmchpofkoddaa.Ex.AV.int Go.IntKind.i64 x.fst, Go.Proofs.Ytcmmchpofkoddaa.Ex.AV.int Go.IntKind.i64 x.snd]),
                      (2, Go.Proofs.Ytcmmchpofkoddaa.Ex.Blk.box [Go.Proofs.Ytcmmchpofkoddaa.Ex.AV.int Go.IntKind.i64 r.fst, Go.Proofs.Ytcmmchpofkoddaa.Ex.AV.int Go.IntKind.i64 r.snd]),
                      (3, Go.Proofs.Ytcmmchpofkoddaa.Ex.Blk.box [Go.Proofs.Ytcmmchpofkoddaa.Ex.AV.int Go.IntKind.i64 z.fst, Go.Proofs.Ytcmmchpofkoddaa.Ex.AV.int Go.IntKind.i64 z.snd])],
                  c := 4 }
          else
            bif Decidable.decide (d10 ≥ z.snd) then
              bif Decidable.decide (d10 < hi) then
                K 0
                  [(4, Go.Proofs.Ytcmmchpofkoddaa.Ex.AV.ptr 0 0), (3, Go.Proofs.Ytcmmchpofkoddaa.Ex.AV.ptr 1 0), (6, Go.Proofs.Ytcmmchpofkoddaa.Ex.AV.ptr 2 0), (10, Go.Proofs.Ytcmmchpofkoddaa.Ex.AV.int Go.IntKind.i64 (Go.IntKind.i64.wrap (i + 1))), (2, Go.Proofs.Ytcmmchpofkoddaa.Ex.AV.sl (Go.Proofs.Ytcmmchpofkoddaa.Ex.Ty.int Go.IntKind.i64) l),
                    (7, Go.Proofs.Ytcmmchpofkoddaa.Ex.AV.ptr 3 0), (8, Go.Proofs.Ytcmmchpofkoddaa.Ex.AV.int Go.IntKind.i64 lo), (9, Go.Proofs.Ytcmmchpofkoddaa.Ex.AV.int Go.IntKind.i64 d10)]
                  {
                    blks :=
                      [(0, Go.Proofs.Ytcmmchpofkoddaa.Ex.Blk.box [Go.Proofs.Ytcmmchpofkoddaa.Ex.AV.int Go.IntKind.i64 y.fst, Go.Proofs.Ytcmmchpofkoddaa.Ex.AV.int Go.IntKind.i64 y.snd]),
                        (1, Go.Proofs.Ytcmmchpofkoddaa.Ex.Blk.box [Go.Proofs.Ytcmmchpofkoddaa.Ex.AV.int Go.IntKind.i64 x.fst, Go.Proofs.Ytcmmchpofkoddaa.Ex.AV.int Go.IntKind.i64 x.snd]),
                        (2, Go.Proofs.Ytcmmchpofkoddaa.Ex.Blk.box [Go.Proofs.Ytcmmchpofkoddaa.Ex.AV.int Go.IntKind.i64 r.fst, Go.Proofs.Ytcmmchpofkoddaa.Ex.AV.int Go.IntKind.i64 r.snd]),
                        (3, Go.Proofs.Ytcmmchpofkoddaa.Ex.Blk.box [Go.Proofs.Ytcmmchpofkoddaa.Ex.AV.int Go.IntKind.i64 z.fst, Go.Proofs.Ytcmmchpofkoddaa.Ex.AV.int Go.IntKind.i64 z.snd])],
                    c := 4 }
              else
                K 0
                  [(4, Go.Proofs.Ytcmmchpofkoddaa.Ex.AV.ptr 0 0), (3, Go.Proofs.Ytcmmchpofkoddaa.Ex.AV.ptr 1 0), (6, Go.Proofs.Ytcmmchpofkoddaa.Ex.AV.ptr 2 0), (10, Go.Proofs.Ytcmmchpofkoddaa.Ex.AV.int Go.IntKind.i64 (Go.IntKind.i64.wrap (i + 1))), (2, Go.Proofs.Ytcmmchpofkoddaa.Ex.AV.sl (Go.Proofs.Ytcmmchpofkoddaa.Ex.Ty.int Go.IntKind.i64) l),
                    (7, Go.Proofs.Ytcmmchpofkoddaa.Ex.AV.ptr 3 0), (8, Go.Proofs.Ytcmmchpofkoddaa.Ex.AV.int Go.IntKind.i64 lo), (9, Go.Proofs.Ytcmmchpofkoddaa.Ex.AV.int Go.IntKind.i64 hi)]
                  {
                    blks :=
                      [(0, Go.Proofs.Ytcmmchpofkoddaa.Ex.Blk.box [Go.Proofs.Ytcmmchpofkoddaa.Ex.AV.int Go.IntKind.i64 y.fst, Go.Proofs.Ytcmmchpofkoddaa.Ex.AV.int Go.IntKind.i64 y.snd]),
                        (1, Go.Proofs.Ytcmmchpofkoddaa.Ex.Blk.box [Go.Proofs.Ytcmmchpofkoddaa.Ex.AV.int Go.IntKind.i64 x.fst, Go.Proofs.Ytcmmchpofkoddaa.Ex.AV.int Go.IntKind.i64 x.snd]),
                        (2, Go.Proofs.Ytcmmchpofkoddaa.Ex.Blk.box [Go.Proofs.Ytcmmchpofkoddaa.Ex.AV.int Go.IntKind.i64 r.fst, Go.Proofs.Ytcmmchpofkoddaa.Ex.AV.int Go.IntKind.i64 r.snd]),
                        (3, Go.Proofs.Ytcmmchpofkoddaa.Ex.Blk.box [Go.Proofs.Ytcmmchpofkoddaa.Ex.AV.int Go.IntKind.i64 z.fst, Go.Proofs.Ytcmmchpofkoddaa.Ex.AV.int Go.IntKind.i64 z.snd])],
                    c := 4 }
            else
              K 0
                [(4, Go.Proofs.Ytcmmchpofkoddaa.Ex.AV.ptr 0 0), (3, Go.Proofs.Ytcmmchpofkoddaa.Ex.AV.ptr 1 0), (6, Go.Proofs.Ytcmmchpofkoddaa.Ex.AV.ptr 2 0), (10, Go.Proofs.Ytcmmchpofkoddaa.Ex.AV.int Go.IntKind.i64 (Go.IntKind.i64.wrap (i + 1))), (2, Go.Proofs.Ytcmmchpofkoddaa.Ex.AV.sl (Go.Proofs.Ytcmmchpofkoddaa.Ex.Ty.int Go.IntKind.i64) l),
                  (7, Go.Proofs.Ytcmmchpofkoddaa.Ex.AV.ptr 3 0), (8, Go.Proofs.Ytcmmchpofkoddaa.Ex.AV.int Go.IntKind.i64 lo), (9, Go.Proofs.Ytcmmchpofkoddaa.Ex.AV.int Go.IntKind.i64 hi)]
                {
                  blks :=
                    [(0, Go.Proofs.Ytcmmchpofkoddaa.Ex.Blk.box [Go.Proofs.Ytcmmchpofkoddaa.Ex.AV.int Go.IntKind.i64 y.fst, Go.Proofs.Ytcmmchpofkoddaa.Ex.AV.int Go.IntKind.i64 y.snd]), (1, Go.Proofs.Ytcmmchpofkoddaa.Ex.Blk.box [Go.Proofs.Ytcmmchpofkoddaa.Ex.AV.int Go.IntKind.i64 x.fst, Go.Proofs.Ytcmmchpofkoddaa.Ex.AV.int Go.IntKind.i64 x.snd]),
                      (2, Go.Proofs.Ytcmmchpofkoddaa.Ex.Blk.box [Go.Proofs.Ytcmmchpofkoddaa.Ex.AV.int Go.IntKind.i64 r.fst, Go.Proofs.Ytcmmchpofkoddaa.Ex.AV.int Go.IntKind.i64 r.snd]),
                      (3, Go.Proofs.Ytcmmchpofkoddaa.Ex.Blk.box [Go.Proofs.Ytcmmchpofkoddaa.Ex.AV.int Go.IntKind.i64 z.fst, Go.Proofs.Ytcmmchpofkoddaa.Ex.AV.int Go.IntKind.i64 z.snd])],
                  c := 4 }
        else
          bif Decidable.decide (d10 ≥ z.snd) then
            bif Decidable.decide (d10 < hi) then
              K 0
                [(4, Go.Proofs.Ytcmmchpofkoddaa.Ex.AV.ptr 0 0), (3, Go.Proofs.Ytcmmchpofkoddaa.Ex.AV.ptr 1 0), (6, Go.Proofs.Ytcmmchpofkoddaa.Ex.AV.ptr 2 0), (10, Go.Proofs.Ytcmmchpofkoddaa.Ex.AV.int Go.IntKind.i64 (Go.IntKind.i64.wrap (i + 1))), (2, Go.Proofs.Ytcmmchpofkoddaa.Ex.AV.sl (Go.Proofs.Ytcmmchpofkoddaa.Ex.Ty.int Go.IntKind.i64) l),
                  (7, Go.Proofs.Ytcmmchpofkoddaa.Ex.AV.ptr 3 0), (8, Go.Proofs.Ytcmmchpofkoddaa.Ex.AV.int Go.IntKind.i64 lo), (9, Go.Proofs.Ytcmmchpofkoddaa.Ex.AV.int Go.IntKind.i64 d10)]
                {
                  blks :=
                    [(0, Go.Proofs.Ytcmmchpofkoddaa.Ex.Blk.box [Go.Proofs.Ytcmmchpofkoddaa.Ex.AV.int Go.IntKind.i64 y.fst, Go.Proofs.Ytcmmchpofkoddaa.Ex.AV.int Go.IntKind.i64 y.snd]), (1, Go.Proofs.Ytcmmchpofkoddaa.Ex.Blk.box [Go.Proofs.Ytcmmchpofkoddaa.Ex.AV.int Go.IntKind.i64 x.fst, Go.Proofs.Ytcmmchpofkoddaa.Ex.AV.int Go.IntKind.i64 x.snd]),
                      (2, Go.Proofs.Ytcmmchpofkoddaa.Ex.Blk.box [Go.Proofs.Ytcmmchpofkoddaa.Ex.AV.int Go.IntKind.i64 r.fst, Go.Proofs.Ytcmmchpofkoddaa.Ex.AV.int Go.IntKind.i64 r.snd]),
                      (3, Go.Proofs.Ytcmmchpofkoddaa.Ex.Blk.box [Go.Proofs.Ytcmmchpofkoddaa.Ex.AV.int Go.IntKind.i64 z.fst, Go.Proofs.Ytcmmchpofkoddaa.Ex.AV.int Go.IntKind.i64 z.snd])],
                  c := 4 }
            else
              K 0
                [(4, Go.Proofs.Ytcmmchpofkoddaa.Ex.AV.ptr 0 0), (3, Go.Proofs.Ytcmmchpofkoddaa.Ex.AV.ptr 1 0), (6, Go.Proofs.Ytcmmchpofkoddaa.Ex.AV.ptr 2 0), (10, Go.Proofs.Ytcmmchpofkoddaa.Ex.AV.int Go.IntKind.i64 (Go.IntKind.i64.wrap (i + 1))), (2, Go.Proofs.Ytcmmchpofkoddaa.Ex.AV.sl (Go.Proofs.Ytcmmchpofkoddaa.Ex.Ty.int Go.IntKind.i64) l),
                  (7, Go.Proofs.Ytcmmchpofkoddaa.Ex.AV.ptr 3 0), (8, Go.Proofs.Ytcmmchpofkoddaa.Ex.AV.int Go.IntKind.i64 lo), (9, Go.Proofs.Ytcmmchpofkoddaa.Ex.AV.int Go.IntKind.i64 hi)]
                {
                  blks :=
                    [(0, Go.Proofs.Ytcmmchpofkoddaa.Ex.Blk.box [Go.Proofs.Ytcmmchpofkoddaa.Ex.AV.int Go.IntKind.i64 y.fst, Go.Proofs.Ytcmmchpofkoddaa.Ex.AV.int Go.IntKind.i64 y.snd]), (1, Go.Proofs.Ytcmmchpofkoddaa.Ex.Blk.box [Go.Proofs.Ytcmmchpofkoddaa.Ex.AV.int Go.IntKind.i64 x.fst, Go.Proofs.Ytcmmchpofkoddaa.Ex.AV.int Go.IntKind.i64 x.snd]),
                      (2, Go.Proofs.Ytcmmchpofkoddaa.Ex.Blk.box [Go.Proofs.Ytcmmchpofkoddaa.Ex.AV.int Go.IntKind.i64 r.fst, Go.Proofs.Ytcmmchpofkoddaa.Ex.AV.int Go.IntKind.i64 r.snd]),
                      (3, Go.Proofs.Ytcmmchpofkoddaa.Ex.Blk.box [Go.Proofs.Ytcmmchpofkoddaa.Ex.AV.int Go.IntKind.i64 z.fst, Go.Proofs.Ytcmmchpofkoddaa.Ex.AV.int Go.IntKind.i64 z.snd])],
                  c := 4 }
          else
            K 0
              [(4, Go.Proofs.Ytcmmchpofkoddaa.Ex.AV.ptr 0 0), (3, Go.Proofs.Ytcmmchpofkoddaa.Ex.AV.ptr 1 0), (6, Go.Proofs.Ytcmmchpofkoddaa.Ex.AV.ptr 2 0), (10, Go.Proofs.Ytcmmchpofkoddaa.Ex.AV.int Go.IntKind.i64 (Go.IntKind.i64.wrap (i + 1))), (2, Go.Proofs.Ytcmmchpofkoddaa.Ex.AV.sl (Go.Proofs.Ytcmmchpofkoddaa.Ex.Ty.int Go.IntKind.i64) l),
                (7, Go.Proofs.Ytcmmchpofkoddaa.Ex.AV.ptr 3 0), (8, Go.Proofs.Ytcmmchpofkoddaa.Ex.AV.int Go.IntKind.i64 lo), (9, Go.Proofs.Ytcmmchpofkoddaa.Ex.AV.int Go.IntKind.i64 hi)]
              {
                blks :=
                  [(0, Go.Proofs.Ytcmmchpofkoddaa.Ex.Blk.box [Go.Proofs.Ytcmmchpofkoddaa.Ex.AV.int Go.IntKind.i64 y.fst, Go.Proofs.Ytcmmchpofkoddaa.Ex.AV.int Go.IntKind.i64 y.snd]), (1, Go.Proofs.Ytcmmchpofkoddaa.Ex.Blk.box [Go.Proofs.Ytcmmchpofkoddaa.Ex.AV.int Go.IntKind.i64 x.fst, Go.Proofs.Ytcmmchpofkoddaa.Ex.AV.int Go.IntKind.i64 x.snd]),
                    (2, Go.Proofs.Ytcmmchpofkoddaa.Ex.Blk.box [Go.Proofs.Ytcmmchpofkoddaa.Ex.AV.int Go.IntKind.i64 r.fst, Go.Proofs.Ytcmmchpofkoddaa.Ex.AV.int Go.IntKind.i64 r.snd]), (3, Go.Proofs.Ytcmmchpofkoddaa.Ex.Blk.box [Go.Proofs.Ytcmmchpofkoddaa.Ex.AV.int Go.IntKind.i64 z.fst, Go.Proofs.Ytcmmchpofkoddaa.Ex.AV.int Go.IntKind.i64 z.snd])],
                c := 4 }
    else Option.none
  else
    K 2
      [(4, Go.Proofs.Ytcmmchpofkoddaa.Ex.AV.ptr 0 0), (3, Go.Proofs.Ytcmmchpofkoddaa.Ex.AV.ptr 1 0), (6, Go.Proofs.Ytcmmchpofkoddaa.Ex.AV.ptr 2 0), (10, Go.Proofs.Ytcmmchpofkoddaa.Ex.AV.int Go.IntKind.i64 i), (2, Go.Proofs.Ytcmmchpofkoddaa.Ex.AV.sl (Go.Proofs.Ytcmmchpofkoddaa.Ex.Ty.int Go.IntKind.i64) l), (7, Go.Proofs.Ytcmmchpofkoddaa.Ex.AV.ptr 3 0),
        (8, Go.Proofs.Ytcmmchpofkoddaa.Ex.AV.int Go.IntKind.i64 lo), (9, Go.Proofs.Ytcmmchpofkoddaa.Ex.AV.int Go.IntKind.i64 hi)]
      {
        blks :=
          [(0, Go.Proofs.Ytcmmchpofkoddaa.Ex.Blk.box [Go.Proofs.Ytcmmchpofkoddaa.Ex.AV.int Go.IntKind.i64 y.fst, Go.Proofs.Ytcmmchpofkoddaa.Ex.AV.int Go.IntKind.i64 y.snd]), (1, Go.Proofs.Ytcmmchpofkoddaa.Ex.Blk.box [Go.Proofs.Ytcmmchpofkoddaa.Ex.AV.int Go.IntKind.i64 x.fst, Go.Proofs.Ytcmmchpofkoddaa.Ex.AV.int Go.IntKind.i64 x.snd]),
            (2, Go.Proofs.Ytcmmchpofkoddaa.Ex.Blk.box [Go.Proofs.Ytcmmchpofkoddaa.Ex.AV.int Go.IntKind.i64 r.fst, Go.Proofs.Ytcmmchpofkoddaa.Ex.AV.int Go.IntKind.i64 r.snd]), (3, Go.Proofs.Ytcmmchpofkoddaa.Ex.Blk.box [Go.Proofs.Ytcmmchpofkoddaa.Ex.AV.int Go.IntKind.i64 z.fst, Go.Proofs.Ytcmmchpofkoddaa.Ex.AV.int Go.IntKind.i64 z.snd])],
        c := 4 } := by kernel_rfl
end Go.Proofs.Ytcmmchpofkoddaa.Ex

/- Loops L: what they come to. -/
namespace Go.Proofs.Ytcmmchpofkoddaa.Ex
open Go.Proofs Go.Proofs.Ytcmmchpofkoddaa
set_option maxRecDepth 100000
set_option linter.unusedVariables false
set_option linter.unusedSimpArgs false
def stepL30 (r : I) (a : I) (d : Int) : I := if fitB d then iJoin a (d, d) else a
def vL30 (r : I) (l : List Int) (s : I) : I := l.foldl (fun s d => stepL30 r (s) d) s
theorem runL30 (r : I) (l : List Int) (hl : l.length ≤ 4611686018427387904) (s : I) :
    go (iterM 0 keepL30 (FL30 0) (l.length + 1) (TL30 0 (l.length : Nat) l)) (HL30 (s) r) = some ((((2, TL30 (l.length : Nat) (l.length : Nat) l), HL30 ((vL30 r l s)) r) : Out3)) := by
  have key := range_loop (keep := keepL30) (F := FL30 0) l (fun i s => TL30 (i : Nat) (l.length : Nat) l) (fun i s => HL30 (s) r) (fun _ s d => .inl (stepL30 r (s) d)) (fun s => (((2, TL30 (l.length : Nat) (l.length : Nat) l), HL30 (s) r) : Out3)) ?_ ?_ ?_ ?_ l 0 s rfl (Nat.zero_le _)
  · rw [runL_inl] at key
    exact key
  · intro i s d hi hd hm K
    skip
    rw [rnd30]
    have e1 : decide ((i : Int) < ((l.length : Nat) : Int)) = true := decide_eq_true (by omega)
    have e2 : decide (0 ≤ (i : Int)) = true := decide_eq_true (by omega)
    rw [e1, e2, Int.toNat_natCast, wrap_up hi hl]
    rw [hd]; simp only [optC, cond_true]; unfold stepL30; cases fitB d <;> rfl
  · intro i s d x e; cases e
  · intro s K
    rw [rnd30]
    have e1 : decide (((l.length : Nat) : Int) < ((l.length : Nat) : Int)) = false := decide_eq_false (by omega)
    rw [e1]
    rfl
  · intro s; exact nofun
def dT30 : Tm → Option (Int × Int × List Int)
  | [(9, .int .i64 i), (8, .int .i64 n), (7, .sl (.int .i64) l), (3, .ptr 0 0), (2, .ptr 1 0)] => some (i, n, l)
  | _ => none
def dH30 : Hp → Option (I × I)
  | ⟨[(0, .box [.int .i64 a1, .int .i64 a2]), (1, .box [.int .i64 r1, .int .i64 r2])], 2⟩ => some ((a1, a2), (r1, r2))
  | _ => none
theorem dT30_some {T : Tm} {t : Int × Int × List Int} (e : dT30 T = some t) : T = TL30 (t.1) (t.2.1) (t.2.2) := by
  unfold dT30 at e
  split at e
  · cases e; rfl
  · cases e
theorem dH30_some {h : Hp} {u : I × I} (e : dH30 h = some u) : h = HL30 (u.1) (u.2) := by
  unfold dH30 at e
  split at e
  · cases e; rfl
  · cases e
def qL30 (base : Nat) (T : Tm) : Prog (Nat × Tm) := match base with
  | 0 => match dT30 T with
    | some t => loopA dH30 (fun u => ((t.1) == 0) && ((t.2.1) == ((t.2.2).length : Nat)) && decide (((t.2.2).length : Int) ≤ 4611686018427387904)) fun u => (((2, TL30 ((t.2.2).length : Nat) ((t.2.2).length : Nat) (t.2.2)), HL30 ((vL30 (u.2) (t.2.2) (u.1))) (u.2)) : Out3)
    | none => .fail
  | _ + 1 => .fail
theorem qgo30 (base : Nat) (T : Tm) (h : Hp) (r : Nat × Tm) (h' : Hp) (e : go (qL30 base T) h = some (r, h')) : ∃ m, go (iterM base keepL30 (FL30 base) m T) h = some (r, h') := by
  unfold qL30 at e
  split at e
  · split at e
    · rename_i t ht
      obtain ⟨u, hu, c, e2⟩ := loopA_go e
      rw [dT30_some ht, dH30_some hu]
      simp only [Bool.and_eq_true, beq_iff_eq, decide_eq_true_eq] at c
      skip
      obtain ⟨⟨c1, c2⟩, c3⟩ := c
      refine ⟨(t.2.2).length + 1, ?_⟩
      rw [c1, c2]
      rw [e2]
      have := runL30 (u.2) (t.2.2) (by omega) (u.1)
      exact this
    · cases e
  · cases e
noncomputable def lpL30 (base : Nat) (T : Tm) : Prog (Nat × Tm) := .norm base keepL30 T (qL30 base)
theorem sndL30 : SoundC Try.prog 24 (.loop (bodyX 30 0)) lpL30 :=
  loop_sound (cx := cxL) (cal := evF cxL keeps 3) (kp := keeps 30) (tabOk_of tab_ok) (cmpsOk_of tab_ok cmps_ok) calL mixed (by intro q hq p hp; cases hp) qgo30
def stepL36 (r : I) (a : I) (d : Int) : I := if fitB d then rJoin a (d, d) else a
def vL36 (r : I) (l : List Int) (s : I) : I := l.foldl (fun s d => stepL36 r (s) d) s
theorem runL36 (r : I) (l : List Int) (hl : l.length ≤ 4611686018427387904) (s : I) :
    go (iterM 0 keepL36 (FL36 0) (l.length + 1) (TL36 0 l)) (HL36 (s) r) = some ((((2, TL36 (l.length : Nat) l), HL36 ((vL36 r l s)) r) : Out3)) := by
  have key := range_loop (keep := keepL36) (F := FL36 0) l (fun i s => TL36 (i : Nat) l) (fun i s => HL36 (s) r) (fun _ s d => .inl (stepL36 r (s) d)) (fun s => (((2, TL36 (l.length : Nat) l), HL36 (s) r) : Out3)) ?_ ?_ ?_ ?_ l 0 s rfl (Nat.zero_le _)
  · rw [runL_inl] at key
    exact key
  · intro i s d hi hd hm K
    skip
    rw [rnd36]
    have e1 : decide ((i : Int) < ((l.length : Nat) : Int)) = true := decide_eq_true (by omega)
    have e2 : decide (0 ≤ (i : Int)) = true := decide_eq_true (by omega)
    rw [e1, e2, Int.toNat_natCast, wrap_up hi hl]
    rw [hd]; simp only [optC, cond_true]; unfold stepL36; cases fitB d <;> rfl
  · intro i s d x e; cases e
  · intro s K
    rw [rnd36]
    have e1 : decide (((l.length : Nat) : Int) < ((l.length : Nat) : Int)) = false := decide_eq_false (by omega)
    rw [e1]
    rfl
  · intro s; exact nofun
def dT36 : Tm → Option (Int × List Int)
  | [(4, .int .i64 i), (0, .sl (.int .i64) l), (3, .ptr 0 0), (2, .ptr 1 0)] => some (i, l)
  | _ => none
def dH36 : Hp → Option (I × I)
  | ⟨[(0, .box [.int .i64 a1, .int .i64 a2]), (1, .box [.int .i64 r1, .int .i64 r2])], 2⟩ => some ((a1, a2), (r1, r2))
  | _ => none
theorem dT36_some {T : Tm} {t : Int × List Int} (e : dT36 T = some t) : T = TL36 (t.1) (t.2) := by
  unfold dT36 at e
  split at e
  · cases e; rfl
  · cases e
theorem dH36_some {h : Hp} {u : I × I} (e : dH36 h = some u) : h = HL36 (u.1) (u.2) := by
  unfold dH36 at e
  split at e
  · cases e; rfl
  · cases e
def qL36 (base : Nat) (T : Tm) : Prog (Nat × Tm) := match base with
  | 0 => match dT36 T with
    | some t => loopA dH36 (fun u => ((t.1) == 0) && decide (((t.2).length : Int) ≤ 4611686018427387904)) fun u => (((2, TL36 ((t.2).length : Nat) (t.2)), HL36 ((vL36 (u.2) (t.2) (u.1))) (u.2)) : Out3)
    | none => .fail
  | _ + 1 => .fail
theorem qgo36 (base : Nat) (T : Tm) (h : Hp) (r : Nat × Tm) (h' : Hp) (e : go (qL36 base T) h = some (r, h')) : ∃ m, go (iterM base keepL36 (FL36 base) m T) h = some (r, h') := by
  unfold qL36 at e
  split at e
  · split at e
    · rename_i t ht
      obtain ⟨u, hu, c, e2⟩ := loopA_go e
      rw [dT36_some ht, dH36_some hu]
      simp only [Bool.and_eq_true, beq_iff_eq, decide_eq_true_eq] at c
      skip
      obtain ⟨c1, c3⟩ := c
      refine ⟨(t.2).length + 1, ?_⟩
      rw [c1]
      rw [e2]
      have := runL36 (u.2) (t.2) (by omega) (u.1)
      exact this
    · cases e
  · cases e
noncomputable def lpL36 (base : Nat) (T : Tm) : Prog (Nat × Tm) := .norm base keepL36 T (qL36 base)
theorem sndL36 : SoundC Try.prog 25 (.loop (bodyX 36 0)) lpL36 :=
  loop_sound (cx := cxL) (cal := evF cxL keeps 3) (kp := keeps 36) (tabOk_of tab_ok) (cmpsOk_of tab_ok cmps_ok) calL mixed (by intro q hq p hp; cases hp) qgo36
def stepL44 (y : I) (x : I) (r : I) (z : I) (lo : Int) (hi : Int) (d : Int) : Int × Int := if fitB d then (if d ≤ z.1 then mx lo d else lo, if d ≥ z.2 then mn hi d else hi) else (lo, hi)
def vL44 (y : I) (x : I) (r : I) (z : I) (l : List Int) (s : Int × Int) : Int × Int := l.foldl (fun s d => stepL44 y x r z (s.1) (s.2) d) s
theorem runL44 (y : I) (x : I) (r : I) (z : I) (l : List Int) (hl : l.length ≤ 4611686018427387904) (s : Int × Int) :
    go (iterM 0 keepL44 (FL44 0) (l.length + 1) (TL44 0 (l.length : Nat) l (s.1) (s.2))) (HL44 y x r z) = some ((((3, TL44 (l.length : Nat) (l.length : Nat) l ((vL44 y x r z l s).1) ((vL44 y x r z l s).2)), HL44 y x r z) : Out3)) := by
  have key := range_loop (keep := keepL44) (F := FL44 0) l (fun i s => TL44 (i : Nat) (l.length : Nat) l (s.1) (s.2)) (fun i s => HL44 y x r z) (fun _ s d => .inl (stepL44 y x r z (s.1) (s.2) d)) (fun s => (((3, TL44 (l.length : Nat) (l.length : Nat) l (s.1) (s.2)), HL44 y x r z) : Out3)) ?_ ?_ ?_ ?_ l 0 s rfl (Nat.zero_le _)
  · rw [runL_inl] at key
    exact key
  · intro i s d hi hd hm K
    skip
    rw [rnd44]
    have e1 : decide ((i : Int) < ((l.length : Nat) : Int)) = true := decide_eq_true (by omega)
    have e2 : decide (0 ≤ (i : Int)) = true := decide_eq_true (by omega)
    rw [e1, e2, Int.toNat_natCast, wrap_up hi hl]
    rw [hd]; simp only [optC, cond_true]; unfold stepL44; cases fitB d <;> by_cases h1 : d ≤ z.1 <;> by_cases h2 : d ≥ z.2 <;> simp only [optC, cond_true, cond_false, h1, h2, decide_true, decide_false, if_true, if_false, Bool.not_true, Bool.not_false] <;> rfl
  · intro i s d x e; cases e
  · intro s K
    rw [rnd44]
    have e1 : decide (((l.length : Nat) : Int) < ((l.length : Nat) : Int)) = false := decide_eq_false (by omega)
    rw [e1]
    rfl
  · intro s; exact nofun
def dT44 : Tm → Option (Int × Int × List Int × Int × Int)
  | [(4, .ptr 0 0), (3, .ptr 1 0), (6, .ptr 2 0), (26, .int .i64 i), (25, .int .i64 n), (24, .sl (.int .i64) l), (7, .ptr 3 0), (8, .int .i64 lo), (9, .int .i64 hi)] => some (i, n, l, lo, hi)
  | _ => none
def dH44 : Hp → Option (I × I × I × I)
  | ⟨[(0, .box [.int .i64 y1, .int .i64 y2]), (1, .box [.int .i64 x1, .int .i64 x2]), (2, .box [.int .i64 r1, .int .i64 r2]), (3, .box [.int .i64 z1, .int .i64 z2])], 4⟩ => some ((y1, y2), (x1, x2), (r1, r2), (z1, z2))
  | _ => none
theorem dT44_some {T : Tm} {t : Int × Int × List Int × Int × Int} (e : dT44 T = some t) : T = TL44 (t.1) (t.2.1) (t.2.2.1) (t.2.2.2.1) (t.2.2.2.2) := by
  unfold dT44 at e
  split at e
  · cases e; rfl
  · cases e
theorem dH44_some {h : Hp} {u : I × I × I × I} (e : dH44 h = some u) : h = HL44 (u.1) (u.2.1) (u.2.2.1) (u.2.2.2) := by
  unfold dH44 at e
  split at e
  · cases e; rfl
  · cases e
def qL44 (base : Nat) (T : Tm) : Prog (Nat × Tm) := match base with
  | 0 => match dT44 T with
    | some t => loopA dH44 (fun u => ((t.1) == 0) && ((t.2.1) == ((t.2.2.1).length : Nat)) && decide (((t.2.2.1).length : Int) ≤ 4611686018427387904)) fun u => (((3, TL44 ((t.2.2.1).length : Nat) ((t.2.2.1).length : Nat) (t.2.2.1) ((vL44 (u.1) (u.2.1) (u.2.2.1) (u.2.2.2) (t.2.2.1) ((t.2.2.2.1), (t.2.2.2.2))).1) ((vL44 (u.1) (u.2.1) (u.2.2.1) (u.2.2.2) (t.2.2.1) ((t.2.2.2.1), (t.2.2.2.2))).2)), HL44 (u.1) (u.2.1) (u.2.2.1) (u.2.2.2)) : Out3)
    | none => .fail
  | _ + 1 => .fail
theorem qgo44 (base : Nat) (T : Tm) (h : Hp) (r : Nat × Tm) (h' : Hp) (e : go (qL44 base T) h = some (r, h')) : ∃ m, go (iterM base keepL44 (FL44 base) m T) h = some (r, h') := by
  unfold qL44 at e
  split at e
  · split at e
    · rename_i t ht
      obtain ⟨u, hu, c, e2⟩ := loopA_go e
      rw [dT44_some ht, dH44_some hu]
      simp only [Bool.and_eq_true, beq_iff_eq, decide_eq_true_eq] at c
      skip
      obtain ⟨⟨c1, c2⟩, c3⟩ := c
      refine ⟨(t.2.2.1).length + 1, ?_⟩
      rw [c1, c2]
      rw [e2]
      have := runL44 (u.1) (u.2.1) (u.2.2.1) (u.2.2.2) (t.2.2.1) (by omega) ((t.2.2.2.1), (t.2.2.2.2))
      exact this
    · cases e
  · cases e
noncomputable def lpL44 (base : Nat) (T : Tm) : Prog (Nat × Tm) := .norm base keepL44 T (qL44 base)
theorem sndL44 : SoundC Try.prog 64 (.loop (bodyX 44 1)) lpL44 :=
  loop_sound (cx := cxL) (cal := evF cxL keeps 3) (kp := keeps 44) (tabOk_of tab_ok) (cmpsOk_of tab_ok cmps_ok) calL mixed (by intro q hq p hp; cases hp) qgo44
def stepL46 (y : I) (x : I) (r : I) (z : I) (lo : Int) (hi : Int) (d : Int) : Int × Int := (if d ≤ z.1 ∧ d > lo then d else lo, if d ≥ z.2 ∧ d < hi then d else hi)
def vL46 (y : I) (x : I) (r : I) (z : I) (l : List Int) (s : Int × Int) : Int × Int := l.foldl (fun s d => stepL46 y x r z (s.1) (s.2) d) s
theorem runL46 (y : I) (x : I) (r : I) (z : I) (l : List Int) (hl : l.length ≤ 4611686018427387904) (s : Int × Int) :
    go (iterM 0 keepL46 (FL46 0) (l.length + 1) (TL46 0 l (s.1) (s.2))) (HL46 y x r z) = some ((((2, TL46 (l.length : Nat) l ((vL46 y x r z l s).1) ((vL46 y x r z l s).2)), HL46 y x r z) : Out3)) := by
  have key := range_loop (keep := keepL46) (F := FL46 0) l (fun i s => TL46 (i : Nat) l (s.1) (s.2)) (fun i s => HL46 y x r z) (fun _ s d => .inl (stepL46 y x r z (s.1) (s.2) d)) (fun s => (((2, TL46 (l.length : Nat) l (s.1) (s.2)), HL46 y x r z) : Out3)) ?_ ?_ ?_ ?_ l 0 s rfl (Nat.zero_le _)
  · rw [runL_inl] at key
    exact key
  · intro i s d hi hd hm K
    skip
    rw [rnd46]
    have e1 : decide ((i : Int) < ((l.length : Nat) : Int)) = true := decide_eq_true (by omega)
    have e2 : decide (0 ≤ (i : Int)) = true := decide_eq_true (by omega)
    rw [e1, e2, Int.toNat_natCast, wrap_up hi hl]
    rw [hd]; simp only [optC, cond_true]; unfold stepL46; by_cases h1 : d ≤ z.1 <;> by_cases h2 : d ≥ z.2 <;> by_cases h3 : d > s.1 <;> by_cases h4 : d < s.2 <;> simp only [optC, cond_true, cond_false, h1, h2, decide_true, decide_false, if_true, if_false, Bool.not_true, Bool.not_false, h3, h4, and_self, and_true, true_and, and_false, false_and] <;> rfl
  · intro i s d x e; cases e
  · intro s K
    rw [rnd46]
    have e1 : decide (((l.length : Nat) : Int) < ((l.length : Nat) : Int)) = false := decide_eq_false (by omega)
    rw [e1]
    rfl
  · intro s; exact nofun
def dT46 : Tm → Option (Int × List Int × Int × Int)
  | [(4, .ptr 0 0), (3, .ptr 1 0), (6, .ptr 2 0), (10, .int .i64 i), (2, .sl (.int .i64) l), (7, .ptr 3 0), (8, .int .i64 lo), (9, .int .i64 hi)] => some (i, l, lo, hi)
  | _ => none
def dH46 : Hp → Option (I × I × I × I)
  | ⟨[(0, .box [.int .i64 y1, .int .i64 y2]), (1, .box [.int .i64 x1, .int .i64 x2]), (2, .box [.int .i64 r1, .int .i64 r2]), (3, .box [.int .i64 z1, .int .i64 z2])], 4⟩ => some ((y1, y2), (x1, x2), (r1, r2), (z1, z2))
  | _ => none
theorem dT46_some {T : Tm} {t : Int × List Int × Int × Int} (e : dT46 T = some t) : T = TL46 (t.1) (t.2.1) (t.2.2.1) (t.2.2.2) := by
  unfold dT46 at e
  split at e
  · cases e; rfl
  · cases e
theorem dH46_some {h : Hp} {u : I × I × I × I} (e : dH46 h = some u) : h = HL46 (u.1) (u.2.1) (u.2.2.1) (u.2.2.2) := by
  unfold dH46 at e
  split at e
  · cases e; rfl
  · cases e
def qL46 (base : Nat) (T : Tm) : Prog (Nat × Tm) := match base with
  | 0 => match dT46 T with
    | some t => loopA dH46 (fun u => ((t.1) == 0) && decide (((t.2.1).length : Int) ≤ 4611686018427387904)) fun u => (((2, TL46 ((t.2.1).length : Nat) (t.2.1) ((vL46 (u.1) (u.2.1) (u.2.2.1) (u.2.2.2) (t.2.1) ((t.2.2.1), (t.2.2.2))).1) ((vL46 (u.1) (u.2.1) (u.2.2.1) (u.2.2.2) (t.2.1) ((t.2.2.1), (t.2.2.2))).2)), HL46 (u.1) (u.2.1) (u.2.2.1) (u.2.2.2)) : Out3)
    | none => .fail
  | _ + 1 => .fail
theorem qgo46 (base : Nat) (T : Tm) (h : Hp) (r : Nat × Tm) (h' : Hp) (e : go (qL46 base T) h = some (r, h')) : ∃ m, go (iterM base keepL46 (FL46 base) m T) h = some (r, h') := by
  unfold qL46 at e
  split at e
  · split at e
    · rename_i t ht
      obtain ⟨u, hu, c, e2⟩ := loopA_go e
      rw [dT46_some ht, dH46_some hu]
      simp only [Bool.and_eq_true, beq_iff_eq, decide_eq_true_eq] at c
      skip
      obtain ⟨c1, c3⟩ := c
      refine ⟨(t.2.1).length + 1, ?_⟩
      rw [c1]
      rw [e2]
      have := runL46 (u.1) (u.2.1) (u.2.2.1) (u.2.2.2) (t.2.1) (by omega) ((t.2.2.1), (t.2.2.2))
      exact this
    · cases e
  · cases e
noncomputable def lpL46 (base : Nat) (T : Tm) : Prog (Nat × Tm) := .norm base keepL46 T (qL46 base)
theorem sndL46 : SoundC Try.prog 66 (.loop (bodyX 46 0)) lpL46 :=
  loop_sound (cx := cxL) (cal := evF cxL keeps 3) (kp := keeps 46) (tabOk_of tab_ok) (cmpsOk_of tab_ok cmps_ok) calL mixed (by intro q hq p hp; cases hp) qgo46
end Go.Proofs.Ytcmmchpofkoddaa.Ex

/- Contracts, level 8. -/
namespace Go.Proofs.Ytcmmchpofkoddaa.Ex
open Go.Proofs Go.Proofs.Ytcmmchpofkoddaa
set_option maxRecDepth 100000
set_option linter.unusedSimpArgs false
set_option linter.unusedVariables false
def aLi (l : List Int) : AV := .sl (.int .i64) l
def gLi : AV → Option (List Int)
  | .sl (.int .i64) l => some l
  | _ => none
theorem gLi_some {v : AV} {x : List Int} (e : gLi v = some x) : v = aLi x := by
  unfold gLi at e
  split at e
  · cases e; rfl
  · cases e
def aLI (l : List I) : AV := .sl tI l
def gLI : AV → Option (List I)
  | .sl (.st (.pair (.int .i64) (.int .i64))) l => some l
  | _ => none
theorem gLI_some {v : AV} {x : List I} (e : gLI v = some x) : v = aLI x := by
  unfold gLI at e
  split at e
  · cases e; rfl
  · cases e
def okLen (l : List Int) : Bool := decide ((l.length : Int) ≤ 4611686018427387904)
def ofV (l : List Int) : I := l.foldl (fun a d => if fitB d then iJoin a (d, d) else a) nn
def rofV (l : List Int) : I := l.foldl (fun a d => if fitB d then rJoin a (d, d) else a) nn
def widS (z : I) (l : List Int) : I := l.foldl (fun s d => if fitB d then (if d ≤ z.1 then mx s.1 d else s.1, if d ≥ z.2 then mn s.2 d else s.2) else (s.1, s.2)) aa
def rwidS (z : I) (l : List Int) : I := l.foldl (fun s d => (if d ≤ z.1 ∧ d > s.1 then d else s.1, if d ≥ z.2 ∧ d < s.2 then d else s.2)) aa
def widV (x y : I) (l : List Int) : I := if empB y then x else if empB x then y else
  (if (iJoin x y).1 < x.1 then (widS (iJoin x y) l).1 else (iJoin x y).1, if (iJoin x y).2 > x.2 then (widS (iJoin x y) l).2 else (iJoin x y).2)
def rwidV (x y : I) (l : List Int) : I := if empB y then x else if empB x then y else
  (if (rJoin x y).1 < x.1 then (rwidS (rJoin x y) l).1 else (rJoin x y).1, if (rJoin x y).2 > x.2 then (rwidS (rJoin x y) l).2 else (rJoin x y).2)
def sp8 : Nat → Option (List AV → Prog AV)
  | 31 => some (specP true M31)
  | 20 => some (specP true M20)
  | 39 => some (specP true M39)
  | 51 => some (specP true M51)
  | 37 => some (specP true M37)
  | 38 => some (specP true M38)
  | 29 => some (specP true M29)
  | 23 => some (specP true M23)
  | 33 => some (specP true M33)
  | 58 => some (specP true M58)
  | 26 => some (specP true M26)
  | 27 => some (specP true M27)
  | 34 => some (specP true M34)
  | 24 => some (specP true M24)
  | 28 => some (specP true M28)
  | 57 => some (specP true M57)
  | 25 => some (specP true M25)
  | 21 => some (specP true M21)
  | 22 => some (specP true M22)
  | 41 => some (specP true M41)
  | 59 => some (specP true M59)
  | 50 => some (specP true M50)
  | 16 => some (specP true M16)
  | 35 => some (specP true M35)
  | 47 => some (specP true M47)
  | 52 => some (specP true M52)
  | 60 => some (specP true M60)
  | 55 => some (specP true M55)
  | 42 => some (specP true M42)
  | 43 => some (specP true M43)
  | 56 => some (specP true M56)
  | 40 => some (specP true M40)
  | 53 => some (specP true M53)
  | 49 => some (specP true M49)
  | 54 => some (specP true M54)
  | 45 => some (specP true M45)
  | 17 => some (specP true M17)
  | 18 => some (specP true M18)
  | 19 => some (specP true M19)
  | _ => none
noncomputable def lp8 : Nat → Nat → Option (Nat → Tm → Prog (Nat × Tm))
  | 30, 0 => some lpL30
  | 36, 0 => some lpL36
  | 44, 1 => some lpL44
  | 46, 0 => some lpL46
  | _, _ => none
noncomputable def cx8 : Ctx := { tab := tab, spec := sp8, inl := inl, lps := lp8, fuel := 10 }
theorem hsp8 : ∀ g p, cx8.spec g = some p → SoundA Try.prog g p := by
  intro g p h
  change sp8 g = some p at h
  unfold sp8 at h
  split at h
  · cases h; exact snd31
  · cases h; exact snd20
  · cases h; exact snd39
  · cases h; exact snd51
  · cases h; exact snd37
  · cases h; exact snd38
  · cases h; exact snd29
  · cases h; exact snd23
  · cases h; exact snd33
  · cases h; exact snd58
  · cases h; exact snd26
  · cases h; exact snd27
  · cases h; exact snd34
  · cases h; exact snd24
  · cases h; exact snd28
  · cases h; exact snd57
  · cases h; exact snd25
  · cases h; exact snd21
  · cases h; exact snd22
  · cases h; exact snd41
  · cases h; exact snd59
  · cases h; exact snd50
  · cases h; exact snd16
  · cases h; exact snd35
  · cases h; exact snd47
  · cases h; exact snd52
  · cases h; exact snd60
  · cases h; exact snd55
  · cases h; exact snd42
  · cases h; exact snd43
  · cases h; exact snd56
  · cases h; exact snd40
  · cases h; exact snd53
  · cases h; exact snd49
  · cases h; exact snd54
  · cases h; exact snd45
  · cases h; exact snd17
  · cases h; exact snd18
  · cases h; exact snd19
  · cases h
theorem in8 : InlOk Try.prog cx8 := ⟨inl_ok, fun g fn c hg hb q hq p hp => by
  change lp8 g q.1 = some p at hp
  change inl g = some fn at hg
  generalize hq1 : q.1 = b at hp
  unfold lp8 at hp
  split at hp
  · cases hp; exact lps_case (inl := inl) hg hb hq hq1 (by kernel_rfl) (by kernel_rfl) sndL30
  · cases hp; exact lps_case (inl := inl) hg hb hq hq1 (by kernel_rfl) (by kernel_rfl) sndL36
  · cases hp; exact lps_case (inl := inl) hg hb hq hq1 (by kernel_rfl) (by kernel_rfl) sndL44
  · cases hp; exact lps_case (inl := inl) hg hb hq hq1 (by kernel_rfl) (by kernel_rfl) sndL46
  · cases hp⟩
theorem cal8 (g : Nat) : SoundA Try.prog g (evF cx8 keeps 3 g) := evF_sound (tabOk_of tab_ok) (cmpsOk_of tab_ok cmps_ok) mixed in8 hsp8 keeps 3 g
end Go.Proofs.Ytcmmchpofkoddaa.Ex

/- What is run, level 8. -/
namespace Go.Proofs.Ytcmmchpofkoddaa.Ex
open Go.Proofs Go.Proofs.Ytcmmchpofkoddaa
set_option maxRecDepth 100000
theorem raw30L (l : List Int) : ev cx8 30 [aLi l] =
  bif 0 == 0 && (↑l.length : Int) == (↑l.length : Int) && Decidable.decide ((↑l.length : Int) ≤ 4611686018427387904) then
    Option.some (Go.Proofs.Ytcmmchpofkoddaa.Ex.AV.agg [Go.Proofs.Ytcmmchpofkoddaa.Ex.AV.int Go.IntKind.i64 (Go.Proofs.Ytcmmchpofkoddaa.Ex.vL30 (0, 0) l Go.Proofs.Ytcmmchpofkoddaa.Ex.nn).fst, Go.Proofs.Ytcmmchpofkoddaa.Ex.AV.int Go.IntKind.i64 (Go.Proofs.Ytcmmchpofkoddaa.Ex.vL30 (0, 0) l Go.Proofs.Ytcmmchpofkoddaa.Ex.nn).snd], { blks := [], c := 0 })
  else Option.none := by kernel_rfl
theorem raw36L (l : List Int) : ev cx8 36 [aLi l] =
  bif 0 == 0 && Decidable.decide ((↑l.length : Int) ≤ 4611686018427387904) then
    Option.some (Go.Proofs.Ytcmmchpofkoddaa.Ex.AV.agg [Go.Proofs.Ytcmmchpofkoddaa.Ex.AV.int Go.IntKind.i64 (Go.Proofs.Ytcmmchpofkoddaa.Ex.vL36 (0, 0) l Go.Proofs.Ytcmmchpofkoddaa.Ex.nn).fst, Go.Proofs.Ytcmmchpofkoddaa.Ex.AV.int Go.IntKind.i64 (Go.Proofs.Ytcmmchpofkoddaa.Ex.vL36 (0, 0) l Go.Proofs.Ytcmmchpofkoddaa.Ex.nn).snd], { blks := [], c := 0 })
  else Option.none := by kernel_rfl
theorem raw44L (x : I) (y : I) (l : List Int) : ev cx8 44 [aI x, aI y, aLi l] =
  bif Go.Proofs.Ytcmmchpofkoddaa.Ex.empB y then Option.some (Go.Proofs.Ytcmmchpofkoddaa.Ex.AV.agg [Go.Proofs.Ytcmmchpofkoddaa.Ex.AV.int Go.IntKind.i64 x.fst, Go.Proofs.Ytcmmchpofkoddaa.Ex.AV.int Go.IntKind.i64 x.snd], { blks := [], c := 0 })
  else
    bif Go.Proofs.Ytcmmchpofkoddaa.Ex.empB x then Option.some (Go.Proofs.Ytcmmchpofkoddaa.Ex.AV.agg [Go.Proofs.Ytcmmchpofkoddaa.Ex.AV.int Go.IntKind.i64 y.fst, Go.Proofs.Ytcmmchpofkoddaa.Ex.AV.int Go.IntKind.i64 y.snd], { blks := [], c := 0 })
    else
      bif 0 == 0 && (↑l.length : Int) == (↑l.length : Int) && Decidable.decide ((↑l.length : Int) ≤ 4611686018427387904) then
        bif Decidable.decide ((Go.Proofs.Ytcmmchpofkoddaa.Ex.iJoin x y).fst < x.fst) then
          bif Decidable.decide ((Go.Proofs.Ytcmmchpofkoddaa.Ex.iJoin x y).snd > x.snd) then
            Option.some
              (Go.Proofs.Ytcmmchpofkoddaa.Ex.AV.agg
                  [Go.Proofs.Ytcmmchpofkoddaa.Ex.AV.int Go.IntKind.i64 (Go.Proofs.Ytcmmchpofkoddaa.Ex.vL44 y x (0, 0) (Go.Proofs.Ytcmmchpofkoddaa.Ex.iJoin x y) l (-2147483648, 2147483647)).fst,
                    Go.Proofs.Ytcmmchpofkoddaa.Ex.AV.int Go.IntKind.i64 (Go.Proofs.Ytcmmchpofkoddaa.Ex.vL44 y x (0, 0) (Go.Proofs.Ytcmmchpofkoddaa.Ex.iJoin x y) l (-2147483648, 2147483647)).snd],
                { blks := [], c := 0 })
          else
            Option.some
              (Go.Proofs.Ytcmmchpofkoddaa.Ex.AV.agg [Go.Proofs.Ytcmmchpofkoddaa.Ex.AV.int Go.IntKind.i64 (Go.Proofs.Ytcmmchpofkoddaa.Ex.vL44 y x (0, 0) (Go.Proofs.Ytcmmchpofkoddaa.Ex.iJoin x y) l (-2147483648, 2147483647)).fst, Go.Proofs.Ytcmmchpofkoddaa.Ex.AV.int Go.IntKind.i64 (Go.Proofs.Ytcmmchpofkoddaa.Ex.iJoin x y).snd],
                { blks := [], c := 0 })
        else
          bif Decidable.decide ((Go.Proofs.Ytcmmchpofkoddaa.Ex.iJoin x y).snd > x.snd) then
            Option.some
              (Go.Proofs.Ytcmmchpofkoddaa.Ex.AV.agg [Go.Proofs.Ytcmmchpofkoddaa.Ex.AV.int Go.IntKind.i64 (Go.Proofs.Ytcmmchpofkoddaa.Ex.iJoin x y).fst, Go.Proofs.Ytcmmchpofkoddaa.Ex.AV.int Go.IntKind.i64 (Go.Proofs.Ytcmmchpofkoddaa.Ex.vL44 y x (0, 0) (Go.Proofs.Ytcmmchpofkoddaa.Ex.iJoin x y) l (-2147483648, 2147483647)).snd],
                { blks := [], c := 0 })
          else Option.some (Go.Proofs.Ytcmmchpofkoddaa.Ex.AV.agg [Go.Proofs.Ytcmmchpofkoddaa.Ex.AV.int Go.IntKind.i64 (Go.Proofs.Ytcmmchpofkoddaa.Ex.iJoin x y).fst, Go.Proofs.Ytcmmchpofkoddaa.Ex.AV.int Go.IntKind.i64 (Go.Proofs.Ytcmmchpofkoddaa.Ex.iJoin x y).snd], { blks := [], c := 0 })
      else Option.none := by kernel_rfl
theorem raw46L (x : I) (y : I) (l : List Int) : ev cx8 46 [aI x, aI y, aLi l] =
  bif Go.Proofs.Ytcmmchpofkoddaa.Ex.empB y then Option.some (Go.Proofs.Ytcmmchpofkoddaa.Ex.AV.agg [Go.Proofs.Ytcmmchpofkoddaa.Ex.AV.int Go.IntKind.i64 x.fst, Go.Proofs.Ytcmmchpofkoddaa.Ex.AV.int Go.IntKind.i64 x.snd], { blks := [], c := 0 })
  else
    bif Go.Proofs.Ytcmmchpofkoddaa.Ex.empB x then Option.some (Go.Proofs.Ytcmmchpofkoddaa.Ex.AV.agg [Go.Proofs.Ytcmmchpofkoddaa.Ex.AV.int Go.IntKind.i64 y.fst, Go.Proofs.Ytcmmchpofkoddaa.Ex.AV.int Go.IntKind.i64 y.snd], { blks := [], c := 0 })
    else
      bif 0 == 0 && Decidable.decide ((↑l.length : Int) ≤ 4611686018427387904) then
        bif Decidable.decide ((Go.Proofs.Ytcmmchpofkoddaa.Ex.rJoin x y).fst < x.fst) then
          bif Decidable.decide ((Go.Proofs.Ytcmmchpofkoddaa.Ex.rJoin x y).snd > x.snd) then
            Option.some
              (Go.Proofs.Ytcmmchpofkoddaa.Ex.AV.agg
                  [Go.Proofs.Ytcmmchpofkoddaa.Ex.AV.int Go.IntKind.i64 (Go.Proofs.Ytcmmchpofkoddaa.Ex.vL46 y x (0, 0) (Go.Proofs.Ytcmmchpofkoddaa.Ex.rJoin x y) l (-2147483648, 2147483647)).fst,
                    Go.Proofs.Ytcmmchpofkoddaa.Ex.AV.int Go.IntKind.i64 (Go.Proofs.Ytcmmchpofkoddaa.Ex.vL46 y x (0, 0) (Go.Proofs.Ytcmmchpofkoddaa.Ex.rJoin x y) l (-2147483648, 2147483647)).snd],
                { blks := [], c := 0 })
          else
            Option.some
              (Go.Proofs.Ytcmmchpofkoddaa.Ex.AV.agg [Go.Proofs.Ytcmmchpofkoddaa.Ex.AV.int Go.IntKind.i64 (Go.Proofs.Ytcmmchpofkoddaa.Ex.vL46 y x (0, 0) (Go.Proofs.Ytcmmchpofkoddaa.Ex.rJoin x y) l (-2147483648, 2147483647)).fst, Go.Proofs.Ytcmmchpofkoddaa.Ex.AV.int Go.IntKind.i64 (Go.Proofs.Ytcmmchpofkoddaa.Ex.rJoin x y).snd],
                { blks := [], c := 0 })
        else
          bif Decidable.decide ((Go.Proofs.Ytcmmchpofkoddaa.Ex.rJoin x y).snd > x.snd) then
            Option.some
              (Go.Proofs.Ytcmmchpofkoddaa.Ex.AV.agg [Go.Proofs.Ytcmmchpofkoddaa.Ex.AV.int Go.IntKind.i64 (Go.Proofs.Ytcmmchpofkoddaa.Ex.rJoin x y).fst, Go.Proofs.Ytcmmchpofkoddaa.Ex.AV.int Go.IntKind.i64 (Go.Proofs.Ytcmmchpofkoddaa.Ex.vL46 y x (0, 0) (Go.Proofs.Ytcmmchpofkoddaa.Ex.rJoin x y) l (-2147483648, 2147483647)).snd],
                { blks := [], c := 0 })
          else Option.some (Go.Proofs.Ytcmmchpofkoddaa.Ex.AV.agg [Go.Proofs.Ytcmmchpofkoddaa.Ex.AV.int Go.IntKind.i64 (Go.Proofs.Ytcmmchpofkoddaa.Ex.rJoin x y).fst, Go.Proofs.Ytcmmchpofkoddaa.Ex.AV.int Go.IntKind.i64 (Go.Proofs.Ytcmmchpofkoddaa.Ex.rJoin x y).snd], { blks := [], c := 0 })
      else Option.none := by kernel_rfl
end Go.Proofs.Ytcmmchpofkoddaa.Ex

/- Contracts, level 8. -/
namespace Go.Proofs.Ytcmmchpofkoddaa.Ex
open Go.Proofs Go.Proofs.Ytcmmchpofkoddaa
set_option maxRecDepth 100000
set_option linter.unusedSimpArgs false
set_option linter.unusedVariables false
theorem ok30L (l : List Int) (hp : okLen l = true) : ev cx8 30 [aLi l] = outV (aI (ofV l)) := by
  rw [raw30L]
  unfold okLen at hp; rw [hp]; simp [outV]; rfl
theorem ok36L (l : List Int) (hp : okLen l = true) : ev cx8 36 [aLi l] = outV (aI (rofV l)) := by
  rw [raw36L]
  unfold okLen at hp; rw [hp]; simp [outV]; rfl
theorem ok44L (x : I) (y : I) (l : List Int) (hp : okLen l = true) : ev cx8 44 [aI x, aI y, aLi l] = outV (aI (widV x y l)) := by
  rw [raw44L]
  unfold okLen at hp; unfold widV; rw [hp]; cases empB y <;> cases empB x <;> simp only [cond_true, cond_false, Bool.and_true, beq_self_eq_true, if_true, if_false, Bool.false_eq_true] <;> first | rfl | skip
  by_cases h1 : (iJoin x y).1 < x.1 <;> by_cases h2 : (iJoin x y).2 > x.2 <;> simp only [h1, h2, if_true, if_false, decide_true, decide_false, cond_true, cond_false] <;> rfl
theorem ok46L (x : I) (y : I) (l : List Int) (hp : okLen l = true) : ev cx8 46 [aI x, aI y, aLi l] = outV (aI (rwidV x y l)) := by
  rw [raw46L]
  unfold okLen at hp; unfold rwidV; rw [hp]; cases empB y <;> cases empB x <;> simp only [cond_true, cond_false, Bool.and_true, beq_self_eq_true, if_true, if_false, Bool.false_eq_true] <;> first | rfl | skip
  by_cases h1 : (rJoin x y).1 < x.1 <;> by_cases h2 : (rJoin x y).2 > x.2 <;> simp only [h1, h2, if_true, if_false, decide_true, decide_false, cond_true, cond_false] <;> rfl
def M30L : List AV → Option (Bool × AV × List Blk)
  | [v_l] => (gLi v_l).bind fun l => some (okLen l, aI (ofV l), [])
  | _ => none
theorem hM30L (args : List AV) (v : AV) (bs : List Blk) (h : M30L args = some (true, v, bs)) : AV.idsL args = [] ∧ (true = true ∨ (plainV v = true ∧ bs.all plainB = true)) ∧ ∃ fb, ex ((evF cx8 keeps 3 30 args).bind (finP true)) false ⟨[], 0⟩ ⟨[], []⟩ = some (v, ⟨enumB 0 bs, bs.length⟩, fb) := by
  unfold M30L at h
  split at h
  · obtain ⟨l, h_l, h0⟩ := Option.bind_eq_some_iff.1 h
    simp only [Option.some.injEq, Prod.mk.injEq] at h0
    obtain ⟨hp, rfl, rfl⟩ := h0
    have e_l := gLi_some h_l
    subst e_l
    exact ⟨rfl, .inl rfl, ev_ex (ok30L l hp)⟩
  · cases h
theorem snd30L : SoundA Try.prog 30 (specP true M30L) := soundA_spec (fz := true) (cal8 30) hM30L
def M36L : List AV → Option (Bool × AV × List Blk)
  | [v_l] => (gLi v_l).bind fun l => some (okLen l, aI (rofV l), [])
  | _ => none
theorem hM36L (args : List AV) (v : AV) (bs : List Blk) (h : M36L args = some (true, v, bs)) : AV.idsL args = [] ∧ (true = true ∨ (plainV v = true ∧ bs.all plainB = true)) ∧ ∃ fb, ex ((evF cx8 keeps 3 36 args).bind (finP true)) false ⟨[], 0⟩ ⟨[], []⟩ = some (v, ⟨enumB 0 bs, bs.length⟩, fb) := by
  unfold M36L at h
  split at h
  · obtain ⟨l, h_l, h0⟩ := Option.bind_eq_some_iff.1 h
    simp only [Option.some.injEq, Prod.mk.injEq] at h0
    obtain ⟨hp, rfl, rfl⟩ := h0
    have e_l := gLi_some h_l
    subst e_l
    exact ⟨rfl, .inl rfl, ev_ex (ok36L l hp)⟩
  · cases h
theorem snd36L : SoundA Try.prog 36 (specP true M36L) := soundA_spec (fz := true) (cal8 36) hM36L
def M44L : List AV → Option (Bool × AV × List Blk)
  | [v_x, v_y, v_l] => (gI v_x).bind fun x => (gI v_y).bind fun y => (gLi v_l).bind fun l => some (okLen l, aI (widV x y l), [])
  | _ => none
theorem hM44L (args : List AV) (v : AV) (bs : List Blk) (h : M44L args = some (true, v, bs)) : AV.idsL args = [] ∧ (true = true ∨ (plainV v = true ∧ bs.all plainB = true)) ∧ ∃ fb, ex ((evF cx8 keeps 3 44 args).bind (finP true)) false ⟨[], 0⟩ ⟨[], []⟩ = some (v, ⟨enumB 0 bs, bs.length⟩, fb) := by
  unfold M44L at h
  split at h
  · obtain ⟨x, h_x, h0⟩ := Option.bind_eq_some_iff.1 h
    obtain ⟨y, h_y, h1⟩ := Option.bind_eq_some_iff.1 h0
    obtain ⟨l, h_l, h2⟩ := Option.bind_eq_some_iff.1 h1
    simp only [Option.some.injEq, Prod.mk.injEq] at h2
    obtain ⟨hp, rfl, rfl⟩ := h2
    have e_x := gI_some h_x
    have e_y := gI_some h_y
    have e_l := gLi_some h_l
    subst e_x e_y e_l
    exact ⟨rfl, .inl rfl, ev_ex (ok44L x y l hp)⟩
  · cases h
theorem snd44L : SoundA Try.prog 44 (specP true M44L) := soundA_spec (fz := true) (cal8 44) hM44L
def M46L : List AV → Option (Bool × AV × List Blk)
  | [v_x, v_y, v_l] => (gI v_x).bind fun x => (gI v_y).bind fun y => (gLi v_l).bind fun l => some (okLen l, aI (rwidV x y l), [])
  | _ => none
theorem hM46L (args : List AV) (v : AV) (bs : List Blk) (h : M46L args = some (true, v, bs)) : AV.idsL args = [] ∧ (true = true ∨ (plainV v = true ∧ bs.all plainB = true)) ∧ ∃ fb, ex ((evF cx8 keeps 3 46 args).bind (finP true)) false ⟨[], 0⟩ ⟨[], []⟩ = some (v, ⟨enumB 0 bs, bs.length⟩, fb) := by
  unfold M46L at h
  split at h
  · obtain ⟨x, h_x, h0⟩ := Option.bind_eq_some_iff.1 h
    obtain ⟨y, h_y, h1⟩ := Option.bind_eq_some_iff.1 h0
    obtain ⟨l, h_l, h2⟩ := Option.bind_eq_some_iff.1 h1
    simp only [Option.some.injEq, Prod.mk.injEq] at h2
    obtain ⟨hp, rfl, rfl⟩ := h2
    have e_x := gI_some h_x
    have e_y := gI_some h_y
    have e_l := gLi_some h_l
    subst e_x e_y e_l
    exact ⟨rfl, .inl rfl, ev_ex (ok46L x y l hp)⟩
  · cases h
theorem snd46L : SoundA Try.prog 46 (specP true M46L) := soundA_spec (fz := true) (cal8 46) hM46L
end Go.Proofs.Ytcmmchpofkoddaa.Ex

/- Contracts, level 8b. -/
namespace Go.Proofs.Ytcmmchpofkoddaa.Ex
open Go.Proofs Go.Proofs.Ytcmmchpofkoddaa
set_option maxRecDepth 100000
set_option linter.unusedSimpArgs false
set_option linter.unusedVariables false
def sp8b : Nat → Option (List AV → Prog AV)
  | 31 => some (specP true M31)
  | 20 => some (specP true M20)
  | 39 => some (specP true M39)
  | 51 => some (specP true M51)
  | 37 => some (specP true M37)
  | 38 => some (specP true M38)
  | 29 => some (specP true M29)
  | 23 => some (specP true M23)
  | 33 => some (specP true M33)
  | 58 => some (specP true M58)
  | 26 => some (specP true M26)
  | 27 => some (specP true M27)
  | 34 => some (specP true M34)
  | 24 => some (specP true M24)
  | 28 => some (specP true M28)
  | 57 => some (specP true M57)
  | 21 => some (specP true M21)
  | 22 => some (specP true M22)
  | 41 => some (specP true M41)
  | 59 => some (specP true M59)
  | 50 => some (specP true M50)
  | 16 => some (specP true M16)
  | 35 => some (specP true M35)
  | 47 => some (specP true M47)
  | 52 => some (specP true M52)
  | 60 => some (specP true M60)
  | 55 => some (specP true M55)
  | 42 => some (specP true M42)
  | 43 => some (specP true M43)
  | 56 => some (specP true M56)
  | 40 => some (specP true M40)
  | 53 => some (specP true M53)
  | 49 => some (specP true M49)
  | 54 => some (specP true M54)
  | 45 => some (specP true M45)
  | 17 => some (specP true M17)
  | 18 => some (specP true M18)
  | 19 => some (specP true M19)
  | _ => none
noncomputable def cx8b : Ctx := { tab := tab, spec := sp8b, inl := inl, lps := fun _ _ => none, fuel := 10 }
theorem hsp8b : ∀ g p, cx8b.spec g = some p → SoundA Try.prog g p := by
  intro g p h
  change sp8b g = some p at h
  unfold sp8b at h
  split at h
  · cases h; exact snd31
  · cases h; exact snd20
  · cases h; exact snd39
  · cases h; exact snd51
  · cases h; exact snd37
  · cases h; exact snd38
  · cases h; exact snd29
  · cases h; exact snd23
  · cases h; exact snd33
  · cases h; exact snd58
  · cases h; exact snd26
  · cases h; exact snd27
  · cases h; exact snd34
  · cases h; exact snd24
  · cases h; exact snd28
  · cases h; exact snd57
  · cases h; exact snd21
  · cases h; exact snd22
  · cases h; exact snd41
  · cases h; exact snd59
  · cases h; exact snd50
  · cases h; exact snd16
  · cases h; exact snd35
  · cases h; exact snd47
  · cases h; exact snd52
  · cases h; exact snd60
  · cases h; exact snd55
  · cases h; exact snd42
  · cases h; exact snd43
  · cases h; exact snd56
  · cases h; exact snd40
  · cases h; exact snd53
  · cases h; exact snd49
  · cases h; exact snd54
  · cases h; exact snd45
  · cases h; exact snd17
  · cases h; exact snd18
  · cases h; exact snd19
  · cases h
theorem in8b : InlOk Try.prog cx8b := ⟨inl_ok, fun _ _ _ _ _ _ _ _ h => nomatch h⟩
theorem cal8b (g : Nat) : SoundA Try.prog g (evF cx8b keeps 3 g) := evF_sound (tabOk_of tab_ok) (cmpsOk_of tab_ok cmps_ok) mixed in8b hsp8b keeps 3 g
end Go.Proofs.Ytcmmchpofkoddaa.Ex

/- What is run, level 8b. -/
namespace Go.Proofs.Ytcmmchpofkoddaa.Ex
open Go.Proofs Go.Proofs.Ytcmmchpofkoddaa
set_option maxRecDepth 100000
theorem raw25JL (z : I × I) : ev cx8b 25 [aL2 z] =
  bif Go.Proofs.Ytcmmchpofkoddaa.Ex.empB z.fst then
    bif Go.Proofs.Ytcmmchpofkoddaa.Ex.empB z.snd then Option.some (Go.Proofs.Ytcmmchpofkoddaa.Ex.AV.agg [Go.Proofs.Ytcmmchpofkoddaa.Ex.AV.int Go.IntKind.i64 Go.Proofs.Ytcmmchpofkoddaa.Ex.nn.fst, Go.Proofs.Ytcmmchpofkoddaa.Ex.AV.int Go.IntKind.i64 Go.Proofs.Ytcmmchpofkoddaa.Ex.nn.snd], { blks := [], c := 0 })
    else Option.some (Go.Proofs.Ytcmmchpofkoddaa.Ex.AV.agg [Go.Proofs.Ytcmmchpofkoddaa.Ex.AV.int Go.IntKind.i64 z.snd.fst, Go.Proofs.Ytcmmchpofkoddaa.Ex.AV.int Go.IntKind.i64 z.snd.snd], { blks := [], c := 0 })
  else
    bif Go.Proofs.Ytcmmchpofkoddaa.Ex.empB z.snd then Option.some (Go.Proofs.Ytcmmchpofkoddaa.Ex.AV.agg [Go.Proofs.Ytcmmchpofkoddaa.Ex.AV.int Go.IntKind.i64 z.fst.fst, Go.Proofs.Ytcmmchpofkoddaa.Ex.AV.int Go.IntKind.i64 z.fst.snd], { blks := [], c := 0 })
    else
      bif Go.Proofs.Ytcmmchpofkoddaa.Ex.empB z.fst then Option.some (Go.Proofs.Ytcmmchpofkoddaa.Ex.AV.agg [Go.Proofs.Ytcmmchpofkoddaa.Ex.AV.int Go.IntKind.i64 z.snd.fst, Go.Proofs.Ytcmmchpofkoddaa.Ex.AV.int Go.IntKind.i64 z.snd.snd], { blks := [], c := 0 })
      else
        Option.some
          (Go.Proofs.Ytcmmchpofkoddaa.Ex.AV.agg [Go.Proofs.Ytcmmchpofkoddaa.Ex.AV.int Go.IntKind.i64 (if z.snd.fst < z.fst.fst then z.snd.fst else z.fst.fst), Go.Proofs.Ytcmmchpofkoddaa.Ex.AV.int Go.IntKind.i64 (if z.snd.snd > z.fst.snd then z.snd.snd else z.fst.snd)],
            { blks := [], c := 0 }) := by kernel_rfl
theorem raw25NL  : ev cx8b 25 [.nil] =
  Option.some (Go.Proofs.Ytcmmchpofkoddaa.Ex.AV.agg [Go.Proofs.Ytcmmchpofkoddaa.Ex.AV.int Go.IntKind.i64 Go.Proofs.Ytcmmchpofkoddaa.Ex.nn.fst, Go.Proofs.Ytcmmchpofkoddaa.Ex.AV.int Go.IntKind.i64 Go.Proofs.Ytcmmchpofkoddaa.Ex.nn.snd], { blks := [], c := 0 }) := by kernel_rfl
end Go.Proofs.Ytcmmchpofkoddaa.Ex

/- Contracts, level 8b. -/
namespace Go.Proofs.Ytcmmchpofkoddaa.Ex
open Go.Proofs Go.Proofs.Ytcmmchpofkoddaa
set_option maxRecDepth 100000
set_option linter.unusedSimpArgs false
set_option linter.unusedVariables false
theorem ok25JL (z : I × I) : ev cx8b 25 [aL2 z] = outV (aI (iJoin z.1 z.2)) := by
  rw [raw25JL]
  simp [outV, aI, aN, nn, iJoin, empB, mx, mn, cond_eq_ite] <;> ((repeat' split) <;> simp_all <;> omega)
theorem ok25NL  : ev cx8b 25 [.nil] = outV (aI nn) := by
  rw [raw25NL]
  rfl
def M25JL : List AV → Option (Bool × AV × List Blk)
  | [v_z] => (gL2 v_z).bind fun z => some (true, aI (iJoin z.1 z.2), [])
  | _ => none
theorem hM25JL (args : List AV) (v : AV) (bs : List Blk) (h : M25JL args = some (true, v, bs)) : AV.idsL args = [] ∧ (true = true ∨ (plainV v = true ∧ bs.all plainB = true)) ∧ ∃ fb, ex ((evF cx8b keeps 3 25 args).bind (finP true)) false ⟨[], 0⟩ ⟨[], []⟩ = some (v, ⟨enumB 0 bs, bs.length⟩, fb) := by
  unfold M25JL at h
  split at h
  · obtain ⟨z, h_z, h0⟩ := Option.bind_eq_some_iff.1 h
    simp only [Option.some.injEq, Prod.mk.injEq] at h0
    obtain ⟨_, rfl, rfl⟩ := h0
    have e_z := gL2_some h_z
    subst e_z
    exact ⟨rfl, .inl rfl, ev_ex (ok25JL z)⟩
  · cases h
def M25NL : List AV → Option (Bool × AV × List Blk)
  | [.nil] => some (true, aI nn, [])
  | _ => none
theorem hM25NL (args : List AV) (v : AV) (bs : List Blk) (h : M25NL args = some (true, v, bs)) : AV.idsL args = [] ∧ (true = true ∨ (plainV v = true ∧ bs.all plainB = true)) ∧ ∃ fb, ex ((evF cx8b keeps 3 25 args).bind (finP true)) false ⟨[], 0⟩ ⟨[], []⟩ = some (v, ⟨enumB 0 bs, bs.length⟩, fb) := by
  unfold M25NL at h
  split at h
  · have h0 := h
    have h0 : (true, _, _) = (true, v, bs) := Option.some.inj h0
    simp only [Prod.mk.injEq] at h0
    obtain ⟨_, rfl, rfl⟩ := h0
    exact ⟨rfl, .inl rfl, ev_ex (ok25NL )⟩
  · cases h
def M25L (l : List AV) : Option (Bool × AV × List Blk) := match M25JL l with
    | some r => some r
    | none => M25NL l
theorem hM25L (args : List AV) (v : AV) (bs : List Blk) (h : M25L args = some (true, v, bs)) : AV.idsL args = [] ∧ (true = true ∨ (plainV v = true ∧ bs.all plainB = true)) ∧ ∃ fb, ex ((evF cx8b keeps 3 25 args).bind (finP true)) false ⟨[], 0⟩ ⟨[], []⟩ = some (v, ⟨enumB 0 bs, bs.length⟩, fb) := by
  unfold M25L at h
  split at h
  · rename_i hr; cases h; exact hM25JL _ _ _ hr
  · exact hM25NL _ _ _ h
theorem snd25L : SoundA Try.prog 25 (specP true M25L) := soundA_spec (fz := true) (cal8b 25) hM25L
end Go.Proofs.Ytcmmchpofkoddaa.Ex

/- Contracts, level 8c. -/
namespace Go.Proofs.Ytcmmchpofkoddaa.Ex
open Go.Proofs Go.Proofs.Ytcmmchpofkoddaa
set_option maxRecDepth 100000
set_option linter.unusedSimpArgs false
set_option linter.unusedVariables false
def sp8c : Nat → Option (List AV → Prog AV)
  | 31 => some (specP true M31)
  | 20 => some (specP true M20)
  | 39 => some (specP true M39)
  | 51 => some (specP true M51)
  | 37 => some (specP true M37)
  | 38 => some (specP true M38)
  | 29 => some (specP true M29)
  | 23 => some (specP true M23)
  | 33 => some (specP true M33)
  | 58 => some (specP true M58)
  | 26 => some (specP true M26)
  | 27 => some (specP true M27)
  | 34 => some (specP true M34)
  | 24 => some (specP true M24)
  | 28 => some (specP true M28)
  | 57 => some (specP true M57)
  | 25 => some (specP true M25L)
  | 21 => some (specP true M21)
  | 22 => some (specP true M22)
  | 41 => some (specP true M41)
  | 59 => some (specP true M59)
  | 50 => some (specP true M50)
  | 16 => some (specP true M16)
  | 35 => some (specP true M35)
  | 47 => some (specP true M47)
  | 52 => some (specP true M52)
  | 60 => some (specP true M60)
  | 55 => some (specP true M55)
  | 42 => some (specP true M42)
  | 43 => some (specP true M43)
  | 56 => some (specP true M56)
  | 40 => some (specP true M40)
  | 53 => some (specP true M53)
  | 49 => some (specP true M49)
  | 54 => some (specP true M54)
  | 45 => some (specP true M45)
  | 17 => some (specP true M17)
  | 18 => some (specP true M18)
  | 19 => some (specP true M19)
  | _ => none
noncomputable def cx8c : Ctx := { tab := tab, spec := sp8c, inl := inl, lps := fun _ _ => none, fuel := 10 }
theorem hsp8c : ∀ g p, cx8c.spec g = some p → SoundA Try.prog g p := by
  intro g p h
  change sp8c g = some p at h
  unfold sp8c at h
  split at h
  · cases h; exact snd31
  · cases h; exact snd20
  · cases h; exact snd39
  · cases h; exact snd51
  · cases h; exact snd37
  · cases h; exact snd38
  · cases h; exact snd29
  · cases h; exact snd23
  · cases h; exact snd33
  · cases h; exact snd58
  · cases h; exact snd26
  · cases h; exact snd27
  · cases h; exact snd34
  · cases h; exact snd24
  · cases h; exact snd28
  · cases h; exact snd57
  · cases h; exact snd25L
  · cases h; exact snd21
  · cases h; exact snd22
  · cases h; exact snd41
  · cases h; exact snd59
  · cases h; exact snd50
  · cases h; exact snd16
  · cases h; exact snd35
  · cases h; exact snd47
  · cases h; exact snd52
  · cases h; exact snd60
  · cases h; exact snd55
  · cases h; exact snd42
  · cases h; exact snd43
  · cases h; exact snd56
  · cases h; exact snd40
  · cases h; exact snd53
  · cases h; exact snd49
  · cases h; exact snd54
  · cases h; exact snd45
  · cases h; exact snd17
  · cases h; exact snd18
  · cases h; exact snd19
  · cases h
theorem in8c : InlOk Try.prog cx8c := ⟨inl_ok, fun _ _ _ _ _ _ _ _ h => nomatch h⟩
theorem cal8c (g : Nat) : SoundA Try.prog g (evF cx8c keeps 3 g) := evF_sound (tabOk_of tab_ok) (cmpsOk_of tab_ok cmps_ok) mixed in8c hsp8c keeps 3 g
end Go.Proofs.Ytcmmchpofkoddaa.Ex

/- What is run, level 8c. -/
namespace Go.Proofs.Ytcmmchpofkoddaa.Ex
open Go.Proofs Go.Proofs.Ytcmmchpofkoddaa
set_option maxRecDepth 100000
theorem raw32 (x : I) : ev cx8c 32 [aI x] =
  bif x.fst == Go.Proofs.Ytcmmchpofkoddaa.Ex.nn.fst && x.snd == Go.Proofs.Ytcmmchpofkoddaa.Ex.nn.snd then Option.some (Go.Proofs.Ytcmmchpofkoddaa.Ex.AV.bool Bool.true, { blks := [], c := 0 })
  else bif !Go.Proofs.Ytcmmchpofkoddaa.Ex.empB x then Option.some (Go.Proofs.Ytcmmchpofkoddaa.Ex.AV.bool (Go.Proofs.Ytcmmchpofkoddaa.Ex.fitB x.fst && Go.Proofs.Ytcmmchpofkoddaa.Ex.fitB x.snd), { blks := [], c := 0 }) else Option.some (Go.Proofs.Ytcmmchpofkoddaa.Ex.AV.bool Bool.false, { blks := [], c := 0 }) := by kernel_rfl
end Go.Proofs.Ytcmmchpofkoddaa.Ex

/- Contracts, level 8c. -/
namespace Go.Proofs.Ytcmmchpofkoddaa.Ex
open Go.Proofs Go.Proofs.Ytcmmchpofkoddaa
set_option maxRecDepth 100000
set_option linter.unusedSimpArgs false
set_option linter.unusedVariables false
theorem ok32 (x : I) : ev cx8c 32 [aI x] = outV (.bool (isB x)) := by
  rw [raw32]
  unfold isB empB nn; simp only; cases (x.1 == 1 && x.2 == 0) <;> by_cases h : x.1 ≤ x.2 <;> first | (rw [show decide (x.1 > x.2) = false from decide_eq_false (by omega)]; simp [h, outV]) | (rw [show decide (x.1 > x.2) = true from decide_eq_true (by omega)]; simp [h, outV])
def M32 : List AV → Option (Bool × AV × List Blk)
  | [v_x] => (gI v_x).bind fun x => some (true, .bool (isB x), [])
  | _ => none
theorem hM32 (args : List AV) (v : AV) (bs : List Blk) (h : M32 args = some (true, v, bs)) : AV.idsL args = [] ∧ (true = true ∨ (plainV v = true ∧ bs.all plainB = true)) ∧ ∃ fb, ex ((evF cx8c keeps 3 32 args).bind (finP true)) false ⟨[], 0⟩ ⟨[], []⟩ = some (v, ⟨enumB 0 bs, bs.length⟩, fb) := by
  unfold M32 at h
  split at h
  · obtain ⟨x, h_x, h0⟩ := Option.bind_eq_some_iff.1 h
    simp only [Option.some.injEq, Prod.mk.injEq] at h0
    obtain ⟨_, rfl, rfl⟩ := h0
    have e_x := gI_some h_x
    subst e_x
    exact ⟨rfl, .inl rfl, ev_ex (ok32 x)⟩
  · cases h
theorem snd32 : SoundA Try.prog 32 (specP true M32) := soundA_spec (fz := true) (cal8c 32) hM32
end Go.Proofs.Ytcmmchpofkoddaa.Ex

