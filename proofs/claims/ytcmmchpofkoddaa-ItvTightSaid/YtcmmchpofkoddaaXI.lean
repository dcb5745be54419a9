/- A part of the proofs of the laws of intervals: XI. -/
import Derived.Test.YtcmmchpofkoddaaXH
import Derived.Test.YtcmmchpofkoddaaXC
/- Loops M: where each round begins. -/
namespace Go.Proofs.Ytcmmchpofkoddaa.Ex
open Go.Proofs Go.Proofs.Ytcmmchpofkoddaa
set_option maxRecDepth 100000
set_option linter.unusedVariables false
set_option linter.unusedSimpArgs false
def spM : Nat → Option (List AV → Prog AV)
  | 31 => some (specP true M31)
  | 20 => some (specP true M20)
  | 39 => some (specP true M39)
  | 51 => some (specP true M51)
  | 37 => some (specP true M37)
  | 38 => some (specP true M38)
  | 29 => some (specP true M29)
  | 23 => some (specP true M23)
  | 33 => some (specP true M33)
  | 58 => some (specP true M58)
  | 26 => some (specP true M26)
  | 27 => some (specP true M27)
  | 34 => some (specP true M34)
  | 24 => some (specP true M24)
  | 28 => some (specP true M28)
  | 57 => some (specP true M57)
  | 25 => some (specP true M25L)
  | 21 => some (specP true M21)
  | 22 => some (specP true M22)
  | 41 => some (specP true M41)
  | 59 => some (specP true M59)
  | 50 => some (specP true M50)
  | 16 => some (specP true M16)
  | 35 => some (specP true M35)
  | 47 => some (specP true M47)
  | 52 => some (specP true M52)
  | 60 => some (specP true M60)
  | 55 => some (specP true M55)
  | 42 => some (specP true M42)
  | 43 => some (specP true M43)
  | 56 => some (specP true M56)
  | 40 => some (specP true M40)
  | 53 => some (specP true M53)
  | 49 => some (specP true M49)
  | 54 => some (specP true M54)
  | 45 => some (specP true M45)
  | 17 => some (specP true M17)
  | 18 => some (specP true M18)
  | 19 => some (specP true M19)
  | 30 => some (specP true M30L)
  | 36 => some (specP true M36L)
  | 44 => some (specP true M44L)
  | 46 => some (specP true M46L)
  | 32 => some (specP true M32)
  | _ => none
noncomputable def cxM : Ctx := { tab := tab, spec := spM, inl := inl, lps := fun _ _ => none, fuel := 10 }
theorem hspM : ∀ g p, cxM.spec g = some p → SoundA Try.prog g p := by
  intro g p h
  change spM g = some p at h
  unfold spM at h
  split at h
  · cases h; exact snd31
  · cases h; exact snd20
  · cases h; exact snd39
  · cases h; exact snd51
  · cases h; exact snd37
  · cases h; exact snd38
  · cases h; exact snd29
  · cases h; exact snd23
  · cases h; exact snd33
  · cases h; exact snd58
  · cases h; exact snd26
  · cases h; exact snd27
  · cases h; exact snd34
  · cases h; exact snd24
  · cases h; exact snd28
  · cases h; exact snd57
  · cases h; exact snd25L
  · cases h; exact snd21
  · cases h; exact snd22
  · cases h; exact snd41
  · cases h; exact snd59
  · cases h; exact snd50
  · cases h; exact snd16
  · cases h; exact snd35
  · cases h; exact snd47
  · cases h; exact snd52
  · cases h; exact snd60
  · cases h; exact snd55
  · cases h; exact snd42
  · cases h; exact snd43
  · cases h; exact snd56
  · cases h; exact snd40
  · cases h; exact snd53
  · cases h; exact snd49
  · cases h; exact snd54
  · cases h; exact snd45
  · cases h; exact snd17
  · cases h; exact snd18
  · cases h; exact snd19
  · cases h; exact snd30L
  · cases h; exact snd36L
  · cases h; exact snd44L
  · cases h; exact snd46L
  · cases h; exact snd32
  · cases h
theorem inM : InlOk Try.prog cxM := ⟨inl_ok, fun _ _ _ _ _ _ _ _ h => nomatch h⟩
theorem calM : CalOk Try.prog (evF cxM keeps 3) := fun g => evF_sound (tabOk_of tab_ok) (cmpsOk_of tab_ok cmps_ok) mixed inM hspM keeps 3 g
def keepL9 : List Nat := [7, 0, 3, 4, 5, 6, 2]
noncomputable def FL9 (base : Nat) : Tm → Prog (Nat × Tm) := evC cxM (evF cxM keeps 3) ⟨9, 70, keeps 9, base⟩ 0 (bodyX 9 0)
def TL9 (i : Int) (l : List Int) (lo : Bool) (hi : Bool) (sm : Bool) : Tm := [(7, .int .i64 i), (0, .sl (.int .i64) l), (3, .ptr 0 0), (4, .bool lo), (5, .bool hi), (6, .bool sm), (2, .bool false)]
def HL9 (v : I) : Hp := ⟨[(0, .box [.int .i64 v.1, .int .i64 v.2])], 1⟩
def keepL13 : List Nat := [3, 4, 2, 7, 10, 8, 9, 6]
noncomputable def FL13 (base : Nat) : Tm → Prog (Nat × Tm) := evC cxM (evF cxM keeps 3) ⟨13, 113, keeps 13, base⟩ 0 (bodyX 13 0)
def TL13 (l : List Int) (i : Int) (lo : Bool) (hi : Bool) : Tm := [(3, .ptr 0 0), (4, .ptr 1 0), (2, .sl (.int .i64) l), (7, .ptr 2 0), (10, .int .i64 i), (8, .bool lo), (9, .bool hi), (6, .bool false)]
def HL13 (x : I) (y : I) (w : I) : Hp := ⟨[(0, .box [.int .i64 x.1, .int .i64 x.2]), (1, .box [.int .i64 y.1, .int .i64 y.2]), (2, .box [.int .i64 w.1, .int .i64 w.2])], 3⟩
def keepL14 : List Nat := [7, 0, 1, 5, 6, 4]
noncomputable def FL14 (base : Nat) : Tm → Prog (Nat × Tm) := evC cxM (evF cxM keeps 3) ⟨14, 70, keeps 14, base⟩ 0 (bodyX 14 0)
def TL14 (i : Int) (q : List I) (l : List Int) (g : Int) (res : Bool) : Tm := [(7, .int .i64 i), (0, .sl (.st (.pair (.int .i64) (.int .i64))) q), (1, .sl (.int .i64) l), (5, .ptr 0 0), (6, .int .i64 g), (4, .bool res)]
def HL14 (a : I) : Hp := ⟨[(0, .box [.int .i64 a.1, .int .i64 a.2])], 1⟩
end Go.Proofs.Ytcmmchpofkoddaa.Ex

/- Loops M: each round. -/
namespace Go.Proofs.Ytcmmchpofkoddaa.Ex
open Go.Proofs Go.Proofs.Ytcmmchpofkoddaa
set_option maxRecDepth 100000
set_option linter.unusedVariables false
set_option linter.unusedSimpArgs false
theorem rnd9 {R : Type} (i : Int) (l : List Int) (lo : Bool) (hi : Bool) (sm : Bool) (v : I) (K : Nat → Tm → Hp → Option R) : round 0 keepL9 (FL9 0) (TL9 i l lo hi sm) (HL9 v) K =
  bif Decidable.decide (i < (↑l.length : Int)) then
    bif Decidable.decide (0 ≤ i) then
      Go.Proofs.Ytcmmchpofkoddaa.Ex.optC l[i.toNat]? Option.none fun d8 ↦
        bif !Go.Proofs.Ytcmmchpofkoddaa.Ex.fitB d8 then
          K 0
            [(7, Go.Proofs.Ytcmmchpofkoddaa.Ex.AV.int Go.IntKind.i64 (Go.IntKind.i64.wrap (i + 1))), (0, Go.Proofs.Ytcmmchpofkoddaa.Ex.AV.sl (Go.Proofs.Ytcmmchpofkoddaa.Ex.Ty.int Go.IntKind.i64) l), (3, Go.Proofs.Ytcmmchpofkoddaa.Ex.AV.ptr 0 0), (4, Go.Proofs.Ytcmmchpofkoddaa.Ex.AV.bool lo), (5, Go.Proofs.Ytcmmchpofkoddaa.Ex.AV.bool hi),
              (6, Go.Proofs.Ytcmmchpofkoddaa.Ex.AV.bool sm), (2, Go.Proofs.Ytcmmchpofkoddaa.Ex.AV.bool Bool.false)]
            { blks := [(0, Go.Proofs.Ytcmmchpofkoddaa.Ex.Blk.box [Go.Proofs.Ytcmmchpofkoddaa.Ex.AV.int Go.IntKind.i64 v.fst, Go.Proofs.Ytcmmchpofkoddaa.Ex.AV.int Go.IntKind.i64 v.snd])], c := 1 }
        else
          bif Decidable.decide (0 ≤ i) then
            Go.Proofs.Ytcmmchpofkoddaa.Ex.optC l[i.toNat]? Option.none fun d9 ↦
              bif !Go.Proofs.Ytcmmchpofkoddaa.Ex.hasB v d9 then
                K 1
                  [(7, Go.Proofs.Ytcmmchpofkoddaa.Ex.AV.int Go.IntKind.i64 i), (0, Go.Proofs.Ytcmmchpofkoddaa.Ex.AV.sl (Go.Proofs.Ytcmmchpofkoddaa.Ex.Ty.int Go.IntKind.i64) l), (3, Go.Proofs.Ytcmmchpofkoddaa.Ex.AV.ptr 0 0), (4, Go.Proofs.Ytcmmchpofkoddaa.Ex.AV.bool lo), (5, Go.Proofs.Ytcmmchpofkoddaa.Ex.AV.bool hi),
                    (6, Go.Proofs.Ytcmmchpofkoddaa.Ex.AV.bool Bool.true), (2, Go.Proofs.Ytcmmchpofkoddaa.Ex.AV.bool Bool.false)]
                  { blks := [(0, Go.Proofs.Ytcmmchpofkoddaa.Ex.Blk.box [Go.Proofs.Ytcmmchpofkoddaa.Ex.AV.int Go.IntKind.i64 v.fst, Go.Proofs.Ytcmmchpofkoddaa.Ex.AV.int Go.IntKind.i64 v.snd])], c := 1 }
              else
                bif lo then
                  bif hi then
                    K 0
                      [(7, Go.Proofs.Ytcmmchpofkoddaa.Ex.AV.int Go.IntKind.i64 (Go.IntKind.i64.wrap (i + 1))), (0, Go.Proofs.Ytcmmchpofkoddaa.Ex.AV.sl (Go.Proofs.Ytcmmchpofkoddaa.Ex.Ty.int Go.IntKind.i64) l), (3, Go.Proofs.Ytcmmchpofkoddaa.Ex.AV.ptr 0 0), (4, Go.Proofs.Ytcmmchpofkoddaa.Ex.AV.bool Bool.true),
                        (5, Go.Proofs.Ytcmmchpofkoddaa.Ex.AV.bool Bool.true), (6, Go.Proofs.Ytcmmchpofkoddaa.Ex.AV.bool Bool.true), (2, Go.Proofs.Ytcmmchpofkoddaa.Ex.AV.bool Bool.false)]
                      { blks := [(0, Go.Proofs.Ytcmmchpofkoddaa.Ex.Blk.box [Go.Proofs.Ytcmmchpofkoddaa.Ex.AV.int Go.IntKind.i64 v.fst, Go.Proofs.Ytcmmchpofkoddaa.Ex.AV.int Go.IntKind.i64 v.snd])], c := 1 }
                  else
                    bif Decidable.decide (0 ≤ i) then
                      Go.Proofs.Ytcmmchpofkoddaa.Ex.optC l[i.toNat]? Option.none fun d10 ↦
                        K 0
                          [(7, Go.Proofs.Ytcmmchpofkoddaa.Ex.AV.int Go.IntKind.i64 (Go.IntKind.i64.wrap (i + 1))), (0, Go.Proofs.Ytcmmchpofkoddaa.Ex.AV.sl (Go.Proofs.Ytcmmchpofkoddaa.Ex.Ty.int Go.IntKind.i64) l), (3, Go.Proofs.Ytcmmchpofkoddaa.Ex.AV.ptr 0 0), (4, Go.Proofs.Ytcmmchpofkoddaa.Ex.AV.bool Bool.true),
                            (5, Go.Proofs.Ytcmmchpofkoddaa.Ex.AV.bool (v.snd == d10)), (6, Go.Proofs.Ytcmmchpofkoddaa.Ex.AV.bool Bool.true), (2, Go.Proofs.Ytcmmchpofkoddaa.Ex.AV.bool Bool.false)]
                          { blks := [(0, Go.Proofs.Ytcmmchpofkoddaa.Ex.Blk.box [Go.Proofs.Ytcmmchpofkoddaa.Ex.AV.int Go.IntKind.i64 v.fst, Go.Proofs.Ytcmmchpofkoddaa.Ex.AV.int Go.IntKind.i64 v.snd])], c := 1 }
                    else Option.none
                else
                  bif Decidable.decide (0 ≤ i) then
                    Go.Proofs.Ytcmmchpofkoddaa.Ex.optC l[i.toNat]? Option.none fun d10 ↦
                      bif hi then
                        K 0
                          [(7, Go.Proofs.Ytcmmchpofkoddaa.Ex.AV.int Go.IntKind.i64 (Go.IntKind.i64.wrap (i + 1))), (0, Go.Proofs.Ytcmmchpofkoddaa.Ex.AV.sl (Go.Proofs.Ytcmmchpofkoddaa.Ex.Ty.int Go.IntKind.i64) l), (3, Go.Proofs.Ytcmmchpofkoddaa.Ex.AV.ptr 0 0), (4, Go.Proofs.Ytcmmchpofkoddaa.Ex.AV.bool (v.fst == d10)),
                            (5, Go.Proofs.Ytcmmchpofkoddaa.Ex.AV.bool Bool.true), (6, Go.Proofs.Ytcmmchpofkoddaa.Ex.AV.bool Bool.true), (2, Go.Proofs.Ytcmmchpofkoddaa.Ex.AV.bool Bool.false)]
                          { blks := [(0, Go.Proofs.Ytcmmchpofkoddaa.Ex.Blk.box [Go.Proofs.Ytcmmchpofkoddaa.Ex.AV.int Go.IntKind.i64 v.fst, Go.Proofs.Ytcmmchpofkoddaa.Ex.AV.int Go.IntKind.i64 v.snd])], c := 1 }
                      else
                        bif Decidable.decide (0 ≤ i) then
                          Go.Proofs.Ytcmmchpofkoddaa.Ex.optC l[i.toNat]? Option.none fun d11 ↦
                            K 0
                              [(7, Go.Proofs.Ytcmmchpofkoddaa.Ex.AV.int Go.IntKind.i64 (Go.IntKind.i64.wrap (i + 1))), (0, Go.Proofs.Ytcmmchpofkoddaa.Ex.AV.sl (Go.Proofs.Ytcmmchpofkoddaa.Ex.Ty.int Go.IntKind.i64) l), (3, Go.Proofs.Ytcmmchpofkoddaa.Ex.AV.ptr 0 0), (4, Go.Proofs.Ytcmmchpofkoddaa.Ex.AV.bool (v.fst == d10)),
                                (5, Go.Proofs.Ytcmmchpofkoddaa.Ex.AV.bool (v.snd == d11)), (6, Go.Proofs.Ytcmmchpofkoddaa.Ex.AV.bool Bool.true), (2, Go.Proofs.Ytcmmchpofkoddaa.Ex.AV.bool Bool.false)]
                              { blks := [(0, Go.Proofs.Ytcmmchpofkoddaa.Ex.Blk.box [Go.Proofs.Ytcmmchpofkoddaa.Ex.AV.int Go.IntKind.i64 v.fst, Go.Proofs.Ytcmmchpofkoddaa.Ex.AV.int Go.IntKind.i64 v.snd])], c := 1 }
                        else Option.none
                  else Option.none
          else Option.none
    else Option.none
  else
    K 2
      [(7, Go.Proofs.Ytcmmchpofkoddaa.Ex.AV.int Go.IntKind.i64 i), (0, Go.Proofs.Ytcmmchpofkoddaa.Ex.AV.sl (Go.Proofs.Ytcmmchpofkoddaa.Ex.Ty.int Go.IntKind.i64) l), (3, Go.Proofs.Ytcmmchpofkoddaa.Ex.AV.ptr 0 0), (4, Go.Proofs.Ytcmmchpofkoddaa.Ex.AV.bool lo), (5, Go.Proofs.Ytcmmchpofkoddaa.Ex.AV.bool hi), (6, Go.Proofs.Ytcmmchpofkoddaa.Ex.AV.bool sm),
        (2, Go.Proofs.Ytcmmchpofkoddaa.Ex.AV.bool Bool.false)]
      { blks := [(0, Go.Proofs.Ytcmmchpofkoddaa.Ex.Blk.box [Go.Proofs.Ytcmmchpofkoddaa.Ex.AV.int Go.IntKind.i64 v.fst, Go.Proofs.Ytcmmchpofkoddaa.Ex.AV.int Go.IntKind.i64 v.snd])], c := 1 } := by kernel_rfl
theorem rnd13 {R : Type} (l : List Int) (i : Int) (lo : Bool) (hi : Bool) (x : I) (y : I) (w : I) (K : Nat → Tm → Hp → Option R) : round 0 keepL13 (FL13 0) (TL13 l i lo hi) (HL13 x y w) K =
  bif Decidable.decide (i < (↑l.length : Int)) then
    bif lo then
      bif hi then
        K 0
          [(3, Go.Proofs.Ytcmmchpofkoddaa.Ex.AV.ptr 0 0), (4, Go.Proofs.Ytcmmchpofkoddaa.Ex.AV.ptr 1 0), (2, Go.Proofs.Ytcmmchpofkoddaa.Ex.AV.sl (Go.Proofs.Ytcmmchpofkoddaa.Ex.Ty.int Go.IntKind.i64) l), (7, Go.Proofs.Ytcmmchpofkoddaa.Ex.AV.ptr 2 0), (10, Go.Proofs.Ytcmmchpofkoddaa.Ex.AV.int Go.IntKind.i64 (Go.IntKind.i64.wrap (i + 1))),
            (8, Go.Proofs.Ytcmmchpofkoddaa.Ex.AV.bool Bool.true), (9, Go.Proofs.Ytcmmchpofkoddaa.Ex.AV.bool Bool.true), (6, Go.Proofs.Ytcmmchpofkoddaa.Ex.AV.bool Bool.false)]
          {
            blks :=
              [(0, Go.Proofs.Ytcmmchpofkoddaa.Ex.Blk.box [Go.Proofs.Ytcmmchpofkoddaa.Ex.AV.int Go.IntKind.i64 x.fst, Go.Proofs.Ytcmmchpofkoddaa.Ex.AV.int Go.IntKind.i64 x.snd]), (1, Go.Proofs.Ytcmmchpofkoddaa.Ex.Blk.box [Go.Proofs.Ytcmmchpofkoddaa.Ex.AV.int Go.IntKind.i64 y.fst, Go.Proofs.Ytcmmchpofkoddaa.Ex.AV.int Go.IntKind.i64 y.snd]),
                (2, Go.Proofs.Ytcmmchpofkoddaa.Ex.Blk.box [Go.Proofs.Ytcmmchpofkoddaa.Ex.AV.int Go.IntKind.i64 w.fst, Go.Proofs.Ytcmmchpofkoddaa.Ex.AV.int Go.IntKind.i64 w.snd])],
            c := 3 }
      else
        bif Decidable.decide (0 ≤ i) then
          Go.Proofs.Ytcmmchpofkoddaa.Ex.optC l[i.toNat]? Option.none fun d9 ↦
            K 0
              [(3, Go.Proofs.Ytcmmchpofkoddaa.Ex.AV.ptr 0 0), (4, Go.Proofs.Ytcmmchpofkoddaa.Ex.AV.ptr 1 0), (2, Go.Proofs.Ytcmmchpofkoddaa.Ex.AV.sl (Go.Proofs.Ytcmmchpofkoddaa.Ex.Ty.int Go.IntKind.i64) l), (7, Go.Proofs.Ytcmmchpofkoddaa.Ex.AV.ptr 2 0), (10, Go.Proofs.Ytcmmchpofkoddaa.Ex.AV.int Go.IntKind.i64 (Go.IntKind.i64.wrap (i + 1))),
                (8, Go.Proofs.Ytcmmchpofkoddaa.Ex.AV.bool Bool.true), (9, Go.Proofs.Ytcmmchpofkoddaa.Ex.AV.bool (w.snd == d9)), (6, Go.Proofs.Ytcmmchpofkoddaa.Ex.AV.bool Bool.false)]
              {
                blks :=
                  [(0, Go.Proofs.Ytcmmchpofkoddaa.Ex.Blk.box [Go.Proofs.Ytcmmchpofkoddaa.Ex.AV.int Go.IntKind.i64 x.fst, Go.Proofs.Ytcmmchpofkoddaa.Ex.AV.int Go.IntKind.i64 x.snd]), (1, Go.Proofs.Ytcmmchpofkoddaa.Ex.Blk.box [Go.Proofs.Ytcmmchpofkoddaa.Ex.AV.int Go.IntKind.i64 y.fst, Go.Proofs.Ytcmmchpofkoddaa.Ex.AV.int Go.IntKind.i64 y.snd]),
                    (2, Go.Proofs.Ytcmmchpofkoddaa.Ex.Blk.box [Go.Proofs.Ytcmmchpofkoddaa.Ex.AV.int Go.IntKind.i64 w.fst, Go.Proofs.Ytcmmchpofkoddaa.Ex.AV.int Go.IntKind.i64 w.snd])],
                c := 3 }
        else Option.none
    else
      bif Decidable.decide (0 ≤ i) then
        Go.Proofs.Ytcmmchpofkoddaa.Ex.optC l[i.toNat]? Option.none fun d9 ↦
          bif hi then
            K 0
              [(3, Go.Proofs.Ytcmmchpofkoddaa.Ex.AV.ptr 0 0), (4, Go.Proofs.Ytcmmchpofkoddaa.Ex.AV.ptr 1 0), (2, Go.Proofs.Ytcmmchpofkoddaa.Ex.AV.sl (Go.Proofs.Ytcmmchpofkoddaa.Ex.Ty.int Go.IntKind.i64) l), (7, Go.Proofs.Ytcmmchpofkoddaa.Ex.AV.ptr 2 0), (10, Go.Proofs.Ytcmmchpofkoddaa.Ex.AV.int Go.IntKind.i64 (Go.IntKind.i64.wrap (i + 1))),
                (8, Go.Proofs.Ytcmmchpofkoddaa.Ex.AV.bool (w.fst == d9)), (9, Go.Proofs.Ytcmmchpofkoddaa.Ex.AV.bool Bool.true), (6, Go.Proofs.Ytcmmchpofkoddaa.Ex.AV.bool Bool.false)]
              {
                blks :=
                  [(0, Go.Proofs.Ytcmmchpofkoddaa.Ex.Blk.box [Go.Proofs.Ytcmmchpofkoddaa.Ex.AV.int Go.IntKind.i64 x.fst, Go.Proofs.Ytcmmchpofkoddaa.Ex.AV.int Go.IntKind.i64 x.snd]), (1, Go.Proofs.Ytcmmchpofkoddaa.Ex.Blk.box [Go.Proofs.Ytcmmchpofkoddaa.Ex.AV.int Go.IntKind.i64 y.fst, Go.Proofs.Ytcmmchpofkoddaa.Ex.AV.int Go.IntKind.i64 y.snd]),
                    (2, Go.Proofs.Ytcmmchpofkoddaa.Ex.Blk.box [Go.Proofs.Ytcmmchpofkoddaa.Ex.AV.int Go.IntKind.i64 w.fst, Go.Proofs.Ytcmmchpofkoddaa.Ex.AV.int Go.IntKind.i64 w.snd])],
                c := 3 }
          else
            bif Decidable.decide (0 ≤ i) then
              Go.Proofs.Ytcmmchpofkoddaa.Ex.optC l[i.toNat]? Option.none fun d10 ↦
                K 0
                  [(3, Go.Proofs.Ytcmmchpofkoddaa.Ex.AV.ptr 0 0), (4, Go.Proofs.Ytcmmchpofkoddaa.Ex.AV.ptr 1 0), (2, Go.Proofs.Ytcmmchpofkoddaa.Ex.AV.sl (Go.Proofs.Ytcmmchpofkoddaa.Ex.Ty.int Go.IntKind.i64) l), (7, Go.Proofs.Ytcmmchpofkoddaa.Ex.AV.ptr 2 0), (10, Go.Proofs.Ytcmmchpofkoddaa.Ex.AV.int Go.IntKind.i64 (Go.IntKind.i64.wrap (i + 1))),
                    (8, Go.Proofs.Ytcmmchpofkoddaa.Ex.AV.bool (w.fst == d9)), (9, Go.Proofs.Ytcmmchpofkoddaa.Ex.AV.bool (w.snd == d10)), (6, Go.Proofs.Ytcmmchpofkoddaa.Ex.AV.bool Bool.false)]
                  {
                    blks :=
                      [(0, Go.Proofs.Ytcmmchpofkoddaa.Ex.Blk.box [Go.Proofs.Ytcmmchpofkoddaa.Ex.AV.int Go.IntKind.i64 x.fst, Go.Proofs.Ytcmmchpofkoddaa.Ex.AV.int Go.IntKind.i64 x.snd]),
                        (1, Go.Proofs.Ytcmmchpofkoddaa.Ex.Blk.box [Go.Proofs.Ytcmmchpofkoddaa.Ex.AV.int Go.IntKind.i64 y.fst, Go.Proofs.Ytcmmchpofkoddaa.Ex.AV.int Go.IntKind.i64 y.snd]),
                        (2, Go.Proofs.Ytcmmchpofkoddaa.Ex.Blk.box [Go.Proofs.Ytcmmchpofkoddaa.Ex.AV.int Go.IntKind.i64 w.fst, Go.Proofs.Ytcmmchpofkoddaa.Ex.AV.int Go.IntKind.i64 w.snd])],
                    c := 3 }
            else Option.none
      else Option.none
  else
    K 2
      [(3, Go.Proofs.Ytcmmchpofkoddaa.Ex.AV.ptr 0 0), (4, Go.Proofs.Ytcmmchpofkoddaa.Ex.AV.ptr 1 0), (2, Go.Proofs.Ytcmmchpofkoddaa.Ex.AV.sl (Go.Proofs.Ytcmmchpofkoddaa.Ex.Ty.int Go.IntKind.i64) l), (7, Go.Proofs.Ytcmmchpofkoddaa.Ex.AV.ptr 2 0), (10, Go.Proofs.Ytcmmchpofkoddaa.Ex.AV.int Go.IntKind.i64 i), (8, Go.Proofs.Ytcmmchpofkoddaa.Ex.AV.bool lo),
        (9, Go.Proofs.Ytcmmchpofkoddaa.Ex.AV.bool hi), (6, Go.Proofs.Ytcmmchpofkoddaa.Ex.AV.bool Bool.false)]
      {
        blks :=
          [(0, Go.Proofs.Ytcmmchpofkoddaa.Ex.Blk.box [Go.Proofs.Ytcmmchpofkoddaa.Ex.AV.int Go.IntKind.i64 x.fst, Go.Proofs.Ytcmmchpofkoddaa.Ex.AV.int Go.IntKind.i64 x.snd]), (1, Go.Proofs.Ytcmmchpofkoddaa.Ex.Blk.box [Go.Proofs.Ytcmmchpofkoddaa.Ex.AV.int Go.IntKind.i64 y.fst, Go.Proofs.Ytcmmchpofkoddaa.Ex.AV.int Go.IntKind.i64 y.snd]),
            (2, Go.Proofs.Ytcmmchpofkoddaa.Ex.Blk.box [Go.Proofs.Ytcmmchpofkoddaa.Ex.AV.int Go.IntKind.i64 w.fst, Go.Proofs.Ytcmmchpofkoddaa.Ex.AV.int Go.IntKind.i64 w.snd])],
        c := 3 } := by kernel_rfl
theorem rnd14 {R : Type} (i : Int) (q : List I) (l : List Int) (g : Int) (res : Bool) (a : I) (K : Nat → Tm → Hp → Option R) : round 0 keepL14 (FL14 0) (TL14 i q l g res) (HL14 a) K =
  bif Decidable.decide (i < (↑q.length : Int)) then
    bif Decidable.decide (0 ≤ i) then
      Go.Proofs.Ytcmmchpofkoddaa.Ex.optC q[i.toNat]? Option.none fun d8 ↦
        bif !Go.Proofs.Ytcmmchpofkoddaa.Ex.isB d8 then
          K 1
            [(7, Go.Proofs.Ytcmmchpofkoddaa.Ex.AV.int Go.IntKind.i64 i), (0, Go.Proofs.Ytcmmchpofkoddaa.Ex.AV.sl ((Go.Proofs.Ytcmmchpofkoddaa.Ex.Ty.int Go.IntKind.i64).pair (Go.Proofs.Ytcmmchpofkoddaa.Ex.Ty.int Go.IntKind.i64)).st q), (1, Go.Proofs.Ytcmmchpofkoddaa.Ex.AV.sl (Go.Proofs.Ytcmmchpofkoddaa.Ex.Ty.int Go.IntKind.i64) l),
              (5, Go.Proofs.Ytcmmchpofkoddaa.Ex.AV.ptr 0 0), (6, Go.Proofs.Ytcmmchpofkoddaa.Ex.AV.int Go.IntKind.i64 g), (4, Go.Proofs.Ytcmmchpofkoddaa.Ex.AV.bool Bool.true)]
            { blks := [(0, Go.Proofs.Ytcmmchpofkoddaa.Ex.Blk.box [Go.Proofs.Ytcmmchpofkoddaa.Ex.AV.int Go.IntKind.i64 a.fst, Go.Proofs.Ytcmmchpofkoddaa.Ex.AV.int Go.IntKind.i64 a.snd])], c := 1 }
        else
          bif Decidable.decide (0 ≤ i) then
            Go.Proofs.Ytcmmchpofkoddaa.Ex.optC q[i.toNat]? Option.none fun d9 ↦
              bif Go.Proofs.Ytcmmchpofkoddaa.Ex.okLen l then
                bif !Go.Proofs.Ytcmmchpofkoddaa.Ex.leqB a (Go.Proofs.Ytcmmchpofkoddaa.Ex.widV a d9 l) then
                  K 1
                    [(7, Go.Proofs.Ytcmmchpofkoddaa.Ex.AV.int Go.IntKind.i64 i), (0, Go.Proofs.Ytcmmchpofkoddaa.Ex.AV.sl ((Go.Proofs.Ytcmmchpofkoddaa.Ex.Ty.int Go.IntKind.i64).pair (Go.Proofs.Ytcmmchpofkoddaa.Ex.Ty.int Go.IntKind.i64)).st q), (1, Go.Proofs.Ytcmmchpofkoddaa.Ex.AV.sl (Go.Proofs.Ytcmmchpofkoddaa.Ex.Ty.int Go.IntKind.i64) l),
                      (5, Go.Proofs.Ytcmmchpofkoddaa.Ex.AV.ptr 0 0), (6, Go.Proofs.Ytcmmchpofkoddaa.Ex.AV.int Go.IntKind.i64 g), (4, Go.Proofs.Ytcmmchpofkoddaa.Ex.AV.bool Bool.false)]
                    { blks := [(0, Go.Proofs.Ytcmmchpofkoddaa.Ex.Blk.box [Go.Proofs.Ytcmmchpofkoddaa.Ex.AV.int Go.IntKind.i64 a.fst, Go.Proofs.Ytcmmchpofkoddaa.Ex.AV.int Go.IntKind.i64 a.snd])], c := 1 }
                else
                  bif Decidable.decide (0 ≤ i) then
                    Go.Proofs.Ytcmmchpofkoddaa.Ex.optC q[i.toNat]? Option.none fun d10 ↦
                      bif !Go.Proofs.Ytcmmchpofkoddaa.Ex.leqB d10 (Go.Proofs.Ytcmmchpofkoddaa.Ex.widV a d9 l) then
                        K 1
                          [(7, Go.Proofs.Ytcmmchpofkoddaa.Ex.AV.int Go.IntKind.i64 i), (0, Go.Proofs.Ytcmmchpofkoddaa.Ex.AV.sl ((Go.Proofs.Ytcmmchpofkoddaa.Ex.Ty.int Go.IntKind.i64).pair (Go.Proofs.Ytcmmchpofkoddaa.Ex.Ty.int Go.IntKind.i64)).st q), (1, Go.Proofs.Ytcmmchpofkoddaa.Ex.AV.sl (Go.Proofs.Ytcmmchpofkoddaa.Ex.Ty.int Go.IntKind.i64) l),
                            (5, Go.Proofs.Ytcmmchpofkoddaa.Ex.AV.ptr 0 0), (6, Go.Proofs.Ytcmmchpofkoddaa.Ex.AV.int Go.IntKind.i64 g), (4, Go.Proofs.Ytcmmchpofkoddaa.Ex.AV.bool Bool.false)]
                          { blks := [(0, Go.Proofs.Ytcmmchpofkoddaa.Ex.Blk.box [Go.Proofs.Ytcmmchpofkoddaa.Ex.AV.int Go.IntKind.i64 a.fst, Go.Proofs.Ytcmmchpofkoddaa.Ex.AV.int Go.IntKind.i64 a.snd])], c := 1 }
                      else
                        bif !Go.Proofs.Ytcmmchpofkoddaa.Ex.isB (Go.Proofs.Ytcmmchpofkoddaa.Ex.widV a d9 l) then
                          K 1
                            [(7, Go.Proofs.Ytcmmchpofkoddaa.Ex.AV.int Go.IntKind.i64 i), (0, Go.Proofs.Ytcmmchpofkoddaa.Ex.AV.sl ((Go.Proofs.Ytcmmchpofkoddaa.Ex.Ty.int Go.IntKind.i64).pair (Go.Proofs.Ytcmmchpofkoddaa.Ex.Ty.int Go.IntKind.i64)).st q),
                              (1, Go.Proofs.Ytcmmchpofkoddaa.Ex.AV.sl (Go.Proofs.Ytcmmchpofkoddaa.Ex.Ty.int Go.IntKind.i64) l), (5, Go.Proofs.Ytcmmchpofkoddaa.Ex.AV.ptr 0 0), (6, Go.Proofs.Ytcmmchpofkoddaa.Ex.AV.int Go.IntKind.i64 g), (4, Go.Proofs.Ytcmmchpofkoddaa.Ex.AV.bool Bool.false)]
                            { blks := [(0, Go.Proofs.Ytcmmchpofkoddaa.Ex.Blk.box [Go.Proofs.Ytcmmchpofkoddaa.Ex.AV.int Go.IntKind.i64 a.fst, Go.Proofs.Ytcmmchpofkoddaa.Ex.AV.int Go.IntKind.i64 a.snd])], c := 1 }
                        else
                          bif !((Go.Proofs.Ytcmmchpofkoddaa.Ex.widV a d9 l).fst == a.fst && (Go.Proofs.Ytcmmchpofkoddaa.Ex.widV a d9 l).snd == a.snd) then
                            K 0
                              [(7, Go.Proofs.Ytcmmchpofkoddaa.Ex.AV.int Go.IntKind.i64 (Go.IntKind.i64.wrap (i + 1))), (0, Go.Proofs.Ytcmmchpofkoddaa.Ex.AV.sl ((Go.Proofs.Ytcmmchpofkoddaa.Ex.Ty.int Go.IntKind.i64).pair (Go.Proofs.Ytcmmchpofkoddaa.Ex.Ty.int Go.IntKind.i64)).st q),
                                (1, Go.Proofs.Ytcmmchpofkoddaa.Ex.AV.sl (Go.Proofs.Ytcmmchpofkoddaa.Ex.Ty.int Go.IntKind.i64) l), (5, Go.Proofs.Ytcmmchpofkoddaa.Ex.AV.ptr 0 0), (6, Go.Proofs.Ytcmmchpofkoddaa.Ex.AV.int Go.IntKind.i64 (Go.IntKind.i64.wrap (g + 1))), (4, Go.Proofs.Ytcmmchpofkoddaa.Ex.AV.bool res)]
                              { blks := [(0, Go.Proofs.Ytcmmchpofkoddaa.Ex.Blk.box [Go.Proofs.Ytcmmchpofkoddaa.Ex.AV.int Go.IntKind.i64 (Go.Proofs.Ytcmmchpofkoddaa.Ex.widV a d9 l).fst, Go.Proofs.Ytcmmchpofkoddaa.Ex.AV.int Go.IntKind.i64 (Go.Proofs.Ytcmmchpofkoddaa.Ex.widV a d9 l).snd])], c := 1 }
                          else
                            K 0
                              [(7, Go.Proofs.Ytcmmchpofkoddaa.Ex.AV.int Go.IntKind.i64 (Go.IntKind.i64.wrap (i + 1))), (0, Go.Proofs.Ytcmmchpofkoddaa.Ex.AV.sl ((Go.Proofs.Ytcmmchpofkoddaa.Ex.Ty.int Go.IntKind.i64).pair (Go.Proofs.Ytcmmchpofkoddaa.Ex.Ty.int Go.IntKind.i64)).st q),
                                (1, Go.Proofs.Ytcmmchpofkoddaa.Ex.AV.sl (Go.Proofs.Ytcmmchpofkoddaa.Ex.Ty.int Go.IntKind.i64) l), (5, Go.Proofs.Ytcmmchpofkoddaa.Ex.AV.ptr 0 0), (6, Go.Proofs.Ytcmmchpofkoddaa.Ex.AV.int Go.IntKind.i64 g), (4, Go.Proofs.Ytcmmchpofkoddaa.Ex.AV.bool res)]
                              { blks := [(0, Go.Proofs.Ytcmmchpofkoddaa.Ex.Blk.box [Go.Proofs.Ytcmmchpofkoddaa.Ex.AV.int Go.IntKind.i64 (Go.Proofs.Ytcmmchpofkoddaa.Ex.widV a d9 l).fst, Go.Proofs.Ytcmmchpofkoddaa.Ex.AV.int Go.IntKind.i64 (Go.Proofs.Ytcmmchpofkoddaa.Ex.widV a d9 l).snd])], c := 1 }
                  else Option.none
              else Option.none
          else Option.none
    else Option.none
  else
    K 2
      [(7, Go.Proofs.Ytcmmchpofkoddaa.Ex.AV.int Go.IntKind.i64 i), (0, Go.Proofs.Ytcmmchpofkoddaa.Ex.AV.sl ((Go.Proofs.Ytcmmchpofkoddaa.Ex.Ty.int Go.IntKind.i64).pair (Go.Proofs.Ytcmmchpofkoddaa.Ex.Ty.int Go.IntKind.i64)).st q), (1, Go.Proofs.Ytcmmchpofkoddaa.Ex.AV.sl (Go.Proofs.Ytcmmchpofkoddaa.Ex.Ty.int Go.IntKind.i64) l),
        (5, Go.Proofs.Ytcmmchpofkoddaa.Ex.AV.ptr 0 0), (6, Go.Proofs.Ytcmmchpofkoddaa.Ex.AV.int Go.IntKind.i64 g), (4, Go.Proofs.Ytcmmchpofkoddaa.Ex.AV.bool res)]
      { blks := [(0, Go.Proofs.Ytcmmchpofkoddaa.Ex.Blk.box [Go.Proofs.Ytcmmchpofkoddaa.Ex.AV.int Go.IntKind.i64 a.fst, Go.Proofs.Ytcmmchpofkoddaa.Ex.AV.int Go.IntKind.i64 a.snd])], c := 1 } := by kernel_rfl
end Go.Proofs.Ytcmmchpofkoddaa.Ex

/- Loops M: what they come to. -/
namespace Go.Proofs.Ytcmmchpofkoddaa.Ex
open Go.Proofs Go.Proofs.Ytcmmchpofkoddaa
set_option maxRecDepth 100000
set_option linter.unusedVariables false
set_option linter.unusedSimpArgs false
def stepL9 (v : I) (lo : Bool) (hi : Bool) (sm : Bool) (d : Int) : Bool × Bool × Bool := if fitB d then (lo || v.1 == d, hi || v.2 == d, true) else (lo, hi, sm)
def allL9 (v : I) (l0 : List Int) : Bool := l0.all fun d => (!fitB d || hasB v d)
def vL9 (v : I) (l : List Int) (s : Bool × Bool × Bool) : Bool × Bool × Bool := l.foldl (fun s d => stepL9 v (s.1) (s.2.1) (s.2.2) d) s
theorem runL9 (v : I) (l : List Int) (hl : l.length ≤ 4611686018427387904) (ha : allL9 v l = true) (s : Bool × Bool × Bool) :
    go (iterM 0 keepL9 (FL9 0) (l.length + 1) (TL9 0 l (s.1) (s.2.1) (s.2.2))) (HL9 v) = some ((((2, TL9 (l.length : Nat) l ((vL9 v l s).1) ((vL9 v l s).2.1) ((vL9 v l s).2.2)), HL9 v) : Out3)) := by
  have key := range_loop (keep := keepL9) (F := FL9 0) l (fun i s => TL9 (i : Nat) l (s.1) (s.2.1) (s.2.2)) (fun i s => HL9 v) (fun _ s d => .inl (stepL9 v (s.1) (s.2.1) (s.2.2) d)) (fun s => (((2, TL9 (l.length : Nat) l (s.1) (s.2.1) (s.2.2)), HL9 v) : Out3)) ?_ ?_ ?_ ?_ l 0 s rfl (Nat.zero_le _)
  · rw [runL_inl] at key
    exact key
  · intro i s d hi hd hm K
    have ha := List.all_eq_true.1 ha d hm
    rw [rnd9]
    have e1 : decide ((i : Int) < ((l.length : Nat) : Int)) = true := decide_eq_true (by omega)
    have e2 : decide (0 ≤ (i : Int)) = true := decide_eq_true (by omega)
    rw [e1, e2, Int.toNat_natCast, wrap_up hi hl]
    rw [hd]; obtain ⟨lo, hi, so⟩ := s; simp only [optC, cond_true] at ha ⊢; unfold stepL9; revert ha; cases fitB d <;> intro ha <;> simp only [optC, cond_true, cond_false, decide_true, decide_false, if_true, if_false, Bool.not_true, Bool.not_false, Bool.true_or, Bool.false_or] at ha ⊢ <;> (try rfl)
    rw [ha]; cases lo <;> cases hi <;> rfl
  · intro i s d x e; cases e
  · intro s K
    rw [rnd9]
    have e1 : decide (((l.length : Nat) : Int) < ((l.length : Nat) : Int)) = false := decide_eq_false (by omega)
    rw [e1]
    rfl
  · intro s; exact nofun
def dT9 : Tm → Option (Int × List Int × Bool × Bool × Bool)
  | [(7, .int .i64 i), (0, .sl (.int .i64) l), (3, .ptr 0 0), (4, .bool lo), (5, .bool hi), (6, .bool sm), (2, .bool false)] => some (i, l, lo, hi, sm)
  | _ => none
def dH9 : Hp → Option (I)
  | ⟨[(0, .box [.int .i64 v1, .int .i64 v2])], 1⟩ => some (v1, v2)
  | _ => none
theorem dT9_some {T : Tm} {t : Int × List Int × Bool × Bool × Bool} (e : dT9 T = some t) : T = TL9 (t.1) (t.2.1) (t.2.2.1) (t.2.2.2.1) (t.2.2.2.2) := by
  unfold dT9 at e
  split at e
  · cases e; rfl
  · cases e
theorem dH9_some {h : Hp} {u : I} (e : dH9 h = some u) : h = HL9 (u) := by
  unfold dH9 at e
  split at e
  · cases e; rfl
  · cases e
def qL9 (base : Nat) (T : Tm) : Prog (Nat × Tm) := match base with
  | 0 => match dT9 T with
    | some t => loopA dH9 (fun u => ((t.1) == 0) && decide (((t.2.1).length : Int) ≤ 4611686018427387904) && allL9 (u) (t.2.1)) fun u => (((2, TL9 ((t.2.1).length : Nat) (t.2.1) ((vL9 (u) (t.2.1) ((t.2.2.1), (t.2.2.2.1), (t.2.2.2.2))).1) ((vL9 (u) (t.2.1) ((t.2.2.1), (t.2.2.2.1), (t.2.2.2.2))).2.1) ((vL9 (u) (t.2.1) ((t.2.2.1), (t.2.2.2.1), (t.2.2.2.2))).2.2)), HL9 (u)) : Out3)
    | none => .fail
  | _ + 1 => .fail
theorem qgo9 (base : Nat) (T : Tm) (h : Hp) (r : Nat × Tm) (h' : Hp) (e : go (qL9 base T) h = some (r, h')) : ∃ m, go (iterM base keepL9 (FL9 base) m T) h = some (r, h') := by
  unfold qL9 at e
  split at e
  · split at e
    · rename_i t ht
      obtain ⟨u, hu, c, e2⟩ := loopA_go e
      rw [dT9_some ht, dH9_some hu]
      simp only [Bool.and_eq_true, beq_iff_eq, decide_eq_true_eq] at c
      obtain ⟨c, ca⟩ := c
      obtain ⟨c1, c3⟩ := c
      refine ⟨(t.2.1).length + 1, ?_⟩
      rw [c1]
      rw [e2]
      have := runL9 (u) (t.2.1) (by omega) ca ((t.2.2.1), (t.2.2.2.1), (t.2.2.2.2))
      exact this
    · cases e
  · cases e
noncomputable def lpL9 (base : Nat) (T : Tm) : Prog (Nat × Tm) := .norm base keepL9 T (qL9 base)
theorem sndL9 : SoundC Try.prog 70 (.loop (bodyX 9 0)) lpL9 :=
  loop_sound (cx := cxM) (cal := evF cxM keeps 3) (kp := keeps 9) (tabOk_of tab_ok) (cmpsOk_of tab_ok cmps_ok) calM mixed (by intro q hq p hp; cases hp) qgo9
def stepL13 (x : I) (y : I) (w : I) (lo : Bool) (hi : Bool) (d : Int) : Bool × Bool := (lo || w.1 == d, hi || w.2 == d)
def vL13 (x : I) (y : I) (w : I) (l : List Int) (s : Bool × Bool) : Bool × Bool := l.foldl (fun s d => stepL13 x y w (s.1) (s.2) d) s
theorem runL13 (x : I) (y : I) (w : I) (l : List Int) (hl : l.length ≤ 4611686018427387904) (s : Bool × Bool) :
    go (iterM 0 keepL13 (FL13 0) (l.length + 1) (TL13 l 0 (s.1) (s.2))) (HL13 x y w) = some ((((2, TL13 l (l.length : Nat) ((vL13 x y w l s).1) ((vL13 x y w l s).2)), HL13 x y w) : Out3)) := by
  have key := range_loop (keep := keepL13) (F := FL13 0) l (fun i s => TL13 l (i : Nat) (s.1) (s.2)) (fun i s => HL13 x y w) (fun _ s d => .inl (stepL13 x y w (s.1) (s.2) d)) (fun s => (((2, TL13 l (l.length : Nat) (s.1) (s.2)), HL13 x y w) : Out3)) ?_ ?_ ?_ ?_ l 0 s rfl (Nat.zero_le _)
  · rw [runL_inl] at key
    exact key
  · intro i s d hi hd hm K
    skip
    rw [rnd13]
    have e1 : decide ((i : Int) < ((l.length : Nat) : Int)) = true := decide_eq_true (by omega)
    have e2 : decide (0 ≤ (i : Int)) = true := decide_eq_true (by omega)
    rw [e1, e2, Int.toNat_natCast, wrap_up hi hl]
    rw [hd]; obtain ⟨lo, hi⟩ := s; simp only [optC, cond_true]; unfold stepL13; cases lo <;> cases hi <;> rfl
  · intro i s d x e; cases e
  · intro s K
    rw [rnd13]
    have e1 : decide (((l.length : Nat) : Int) < ((l.length : Nat) : Int)) = false := decide_eq_false (by omega)
    rw [e1]
    rfl
  · intro s; exact nofun
def dT13 : Tm → Option (List Int × Int × Bool × Bool)
  | [(3, .ptr 0 0), (4, .ptr 1 0), (2, .sl (.int .i64) l), (7, .ptr 2 0), (10, .int .i64 i), (8, .bool lo), (9, .bool hi), (6, .bool false)] => some (l, i, lo, hi)
  | _ => none
def dH13 : Hp → Option (I × I × I)
  | ⟨[(0, .box [.int .i64 x1, .int .i64 x2]), (1, .box [.int .i64 y1, .int .i64 y2]), (2, .box [.int .i64 w1, .int .i64 w2])], 3⟩ => some ((x1, x2), (y1, y2), (w1, w2))
  | _ => none
theorem dT13_some {T : Tm} {t : List Int × Int × Bool × Bool} (e : dT13 T = some t) : T = TL13 (t.1) (t.2.1) (t.2.2.1) (t.2.2.2) := by
  unfold dT13 at e
  split at e
  · cases e; rfl
  · cases e
theorem dH13_some {h : Hp} {u : I × I × I} (e : dH13 h = some u) : h = HL13 (u.1) (u.2.1) (u.2.2) := by
  unfold dH13 at e
  split at e
  · cases e; rfl
  · cases e
def qL13 (base : Nat) (T : Tm) : Prog (Nat × Tm) := match base with
  | 0 => match dT13 T with
    | some t => loopA dH13 (fun u => ((t.2.1) == 0) && decide (((t.1).length : Int) ≤ 4611686018427387904)) fun u => (((2, TL13 (t.1) ((t.1).length : Nat) ((vL13 (u.1) (u.2.1) (u.2.2) (t.1) ((t.2.2.1), (t.2.2.2))).1) ((vL13 (u.1) (u.2.1) (u.2.2) (t.1) ((t.2.2.1), (t.2.2.2))).2)), HL13 (u.1) (u.2.1) (u.2.2)) : Out3)
    | none => .fail
  | _ + 1 => .fail
theorem qgo13 (base : Nat) (T : Tm) (h : Hp) (r : Nat × Tm) (h' : Hp) (e : go (qL13 base T) h = some (r, h')) : ∃ m, go (iterM base keepL13 (FL13 base) m T) h = some (r, h') := by
  unfold qL13 at e
  split at e
  · split at e
    · rename_i t ht
      obtain ⟨u, hu, c, e2⟩ := loopA_go e
      rw [dT13_some ht, dH13_some hu]
      simp only [Bool.and_eq_true, beq_iff_eq, decide_eq_true_eq] at c
      skip
      obtain ⟨c1, c3⟩ := c
      refine ⟨(t.1).length + 1, ?_⟩
      rw [c1]
      rw [e2]
      have := runL13 (u.1) (u.2.1) (u.2.2) (t.1) (by omega) ((t.2.2.1), (t.2.2.2))
      exact this
    · cases e
  · cases e
noncomputable def lpL13 (base : Nat) (T : Tm) : Prog (Nat × Tm) := .norm base keepL13 T (qL13 base)
theorem sndL13 : SoundC Try.prog 113 (.loop (bodyX 13 0)) lpL13 :=
  loop_sound (cx := cxM) (cal := evF cxM keeps 3) (kp := keeps 13) (tabOk_of tab_ok) (cmpsOk_of tab_ok cmps_ok) calM mixed (by intro q hq p hp; cases hp) qgo13
def stepL14 (l : List Int) (res : Bool) (i : Nat) (a : I) (g : Int) (d : I) : (I × Int) ⊕ (Bool × Nat × Int × I) := if !isB d then .inr (true, i, g, a) else if !leqB a (widV a d l) then .inr (false, i, g, a) else if !leqB d (widV a d l) then .inr (false, i, g, a) else if !isB (widV a d l) then .inr (false, i, g, a) else if (widV a d l).1 == a.1 && (widV a d l).2 == a.2 then .inl (widV a d l, g) else .inl (widV a d l, IntKind.i64.wrap (g + 1))
def allL14 (l : List Int) (res : Bool) (l0 : List I) : Bool := l0.all fun d => okLen l
def outL14 (l : List Int) (res : Bool) (q : List I) : (Bool × Nat × Int × I) → Out3 := fun e => ((1, TL14 (e.2.1 : Nat) q l e.2.2.1 e.1), HL14 e.2.2.2)
def vL14 (l : List Int) (res : Bool) (q : List I) (s : I × Int) : (I × Int) ⊕ (Bool × Nat × Int × I) := runS (fun i s d => stepL14 l res i (s.1) (s.2) d) 0 q s
theorem runL14 (l : List Int) (res : Bool) (q : List I) (hl : q.length ≤ 4611686018427387904) (ha : allL14 l res q = true) (s : I × Int) :
    go (iterM 0 keepL14 (FL14 0) (q.length + 1) (TL14 0 q l (s.2) res)) (HL14 (s.1)) = some ((vL14 l res q s).elim (fun s => (((2, TL14 (q.length : Nat) q l (s.2) res), HL14 (s.1)) : Out3)) (outL14 l res q)) := by
  have key := range_loop (keep := keepL14) (F := FL14 0) q (fun i s => TL14 (i : Nat) q l (s.2) res) (fun i s => HL14 (s.1)) (fun i s d => (stepL14 l res i (s.1) (s.2) d).elim .inl (fun e =>   .inr (outL14 l res q e))) (fun s => (((2, TL14 (q.length : Nat) q l (s.2) res), HL14 (s.1)) : Out3)) ?_ ?_ ?_ ?_ q 0 s rfl (Nat.zero_le _)
  · rw [runL_elim] at key
    exact key
  · intro i s d hi hd hm K
    have ha := List.all_eq_true.1 ha d hm
    rw [rnd14]
    have e1 : decide ((i : Int) < ((q.length : Nat) : Int)) = true := decide_eq_true (by omega)
    have e2 : decide (0 ≤ (i : Int)) = true := decide_eq_true (by omega)
    rw [e1, e2, Int.toNat_natCast, wrap_up hi hl]
    rw [hd]; obtain ⟨a, g⟩ := s; simp only [optC, cond_true, ha]; unfold stepL14
    cases isB d with
    | false => rfl
    | true =>
    cases leqB a (widV a d l) with
    | false => rfl
    | true =>
    cases leqB d (widV a d l) with
    | false => rfl
    | true =>
    cases isB (widV a d l) with
    | false => rfl
    | true =>
    cases ((widV a d l).1 == a.1 && (widV a d l).2 == a.2) <;> rfl
  · intro i s d x e; revert e; cases stepL14 l res i (s.1) (s.2) d with | inl a => intro e; cases e | inr a => intro e; cases e; exact nofun
  · intro s K
    rw [rnd14]
    have e1 : decide (((q.length : Nat) : Int) < ((q.length : Nat) : Int)) = false := decide_eq_false (by omega)
    rw [e1]
    rfl
  · intro s; exact nofun
def dT14 : Tm → Option (Int × List I × List Int × Int × Bool)
  | [(7, .int .i64 i), (0, .sl (.st (.pair (.int .i64) (.int .i64))) q), (1, .sl (.int .i64) l), (5, .ptr 0 0), (6, .int .i64 g), (4, .bool res)] => some (i, q, l, g, res)
  | _ => none
def dH14 : Hp → Option (I)
  | ⟨[(0, .box [.int .i64 a1, .int .i64 a2])], 1⟩ => some (a1, a2)
  | _ => none
theorem dT14_some {T : Tm} {t : Int × List I × List Int × Int × Bool} (e : dT14 T = some t) : T = TL14 (t.1) (t.2.1) (t.2.2.1) (t.2.2.2.1) (t.2.2.2.2) := by
  unfold dT14 at e
  split at e
  · cases e; rfl
  · cases e
theorem dH14_some {h : Hp} {u : I} (e : dH14 h = some u) : h = HL14 (u) := by
  unfold dH14 at e
  split at e
  · cases e; rfl
  · cases e
def qL14 (base : Nat) (T : Tm) : Prog (Nat × Tm) := match base with
  | 0 => match dT14 T with
    | some t => loopB dH14 (fun u => ((t.1) == 0) && decide (((t.2.1).length : Int) ≤ 4611686018427387904) && allL14 (t.2.2.1) (t.2.2.2.2) (t.2.1)) (fun u => vL14 (t.2.2.1) (t.2.2.2.2) (t.2.1) ((u), (t.2.2.2.1))) (fun u s => (((2, TL14 ((t.2.1).length : Nat) (t.2.1) (t.2.2.1) (s.2) (t.2.2.2.2)), HL14 (s.1)) : Out3)) (fun u e => outL14 (t.2.2.1) (t.2.2.2.2) (t.2.1) e)
    | none => .fail
  | _ + 1 => .fail
theorem qgo14 (base : Nat) (T : Tm) (h : Hp) (r : Nat × Tm) (h' : Hp) (e : go (qL14 base T) h = some (r, h')) : ∃ m, go (iterM base keepL14 (FL14 base) m T) h = some (r, h') := by
  unfold qL14 at e
  split at e
  · split at e
    · rename_i t ht
      obtain ⟨u, hu, c, e2⟩ := loopB_go e
      rw [dT14_some ht, dH14_some hu]
      simp only [Bool.and_eq_true, beq_iff_eq, decide_eq_true_eq] at c
      obtain ⟨c, ca⟩ := c
      obtain ⟨c1, c3⟩ := c
      refine ⟨(t.2.1).length + 1, ?_⟩
      rw [c1]
      rw [e2]
      have := runL14 (t.2.2.1) (t.2.2.2.2) (t.2.1) (by omega) ca ((u), (t.2.2.2.1))
      revert this; unfold Sum.elim; cases vL14 (t.2.2.1) (t.2.2.2.2) (t.2.1) ((u), (t.2.2.2.1)) <;> exact id
    · cases e
  · cases e
noncomputable def lpL14 (base : Nat) (T : Tm) : Prog (Nat × Tm) := .norm base keepL14 T (qL14 base)
theorem sndL14 : SoundC Try.prog 70 (.loop (bodyX 14 0)) lpL14 :=
  loop_sound (cx := cxM) (cal := evF cxM keeps 3) (kp := keeps 14) (tabOk_of tab_ok) (cmpsOk_of tab_ok cmps_ok) calM mixed (by intro q hq p hp; cases hp) qgo14
end Go.Proofs.Ytcmmchpofkoddaa.Ex

