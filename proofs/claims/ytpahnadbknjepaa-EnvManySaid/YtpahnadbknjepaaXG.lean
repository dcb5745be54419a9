/- A part of the proofs of the laws of environments: XG. -/
import Derived.Test.YtpahnadbknjepaaXF
import Derived.Test.YtpahnadbknjepaaXC
/- Loops L: where each round begins. -/
namespace Go.Proofs.Ytpahnadbknjepaa.Ex
open Go.Proofs Go.Proofs.Ytpahnadbknjepaa
set_option maxRecDepth 100000
set_option linter.unusedVariables false
set_option linter.unusedSimpArgs false
def spL : Nat → Option (List AV → Prog AV)
  | 46 => some (specP true M46)
  | 55 => some (specP true M55)
  | 45 => some (specP true M45)
  | 37 => some (specP true M37)
  | 38 => some (specP true M38)
  | 31 => some (specP true M31)
  | 36 => some (specP true M36)
  | 43 => some (specP true M43)
  | 44 => some (specP true M44)
  | 50 => some (specP true M50)
  | 54 => some (specP true M54)
  | 20 => some (specP true M20)
  | 39 => some (specP true M39)
  | 26 => some (specP true M26)
  | 52 => some (specP true M52)
  | 51 => some (specP true M51)
  | 40 => some (specP true M40)
  | 29 => some (specP true M29)
  | _ => none
noncomputable def cxL : Ctx := { tab := tab, spec := spL, inl := inl, lps := fun _ _ => none, fuel := 10 }
theorem hspL : ∀ g p, cxL.spec g = some p → SoundA Try.prog g p := by
  intro g p h
  change spL g = some p at h
  unfold spL at h
  split at h
  · cases h; exact snd46
  · cases h; exact snd55
  · cases h; exact snd45
  · cases h; exact snd37
  · cases h; exact snd38
  · cases h; exact snd31
  · cases h; exact snd36
  · cases h; exact snd43
  · cases h; exact snd44
  · cases h; exact snd50
  · cases h; exact snd54
  · cases h; exact snd20
  · cases h; exact snd39
  · cases h; exact snd26
  · cases h; exact snd52
  · cases h; exact snd51
  · cases h; exact snd40
  · cases h; exact snd29
  · cases h
theorem inL : InlOk Try.prog cxL := ⟨inl_ok, fun _ _ _ _ _ _ _ _ h => nomatch h⟩
theorem calL : CalOk Try.prog (evF cxL keeps 3) := fun g => evF_sound (tabOk_of tab_ok) (cmpsOk_of tab_ok cmps_ok) mixed inL hspL keeps 3 g
def eqI (x y : I) : Bool := x.1 == y.1 && x.2 == y.2
def keepL28 : List Nat := [9, 8, 7, 1, 4]
noncomputable def FL28 (base : Nat) : Tm → Prog (Nat × Tm) := evC cxL (evF cxL keeps 3) ⟨28, 21, keeps 28, base⟩ 0 (bodyX 28 0)
def TL28 (i : Int) (n : Int) (a : List I) (b : List I) : Tm := [(9, .int .i64 i), (8, .int .i64 n), (7, .sl (.st (.pair (.int .i64) (.int .i64))) a), (1, .sl (.st (.pair (.int .i64) (.int .i64))) b), (4, .bool false)]
def HL28  : Hp := ⟨[], 0⟩
def keepL35 : List Nat := [5, 0, 1, 4]
noncomputable def FL35 (base : Nat) : Tm → Prog (Nat × Tm) := evC cxL (evF cxL keeps 3) ⟨35, 21, keeps 35, base⟩ 0 (bodyX 35 0)
def TL35 (i : Int) (a : List I) (b : List I) : Tm := [(5, .int .i64 i), (0, .sl (.st (.pair (.int .i64) (.int .i64))) a), (1, .sl (.st (.pair (.int .i64) (.int .i64))) b), (4, .bool false)]
def HL35  : Hp := ⟨[], 0⟩
def keepL30 : List Nat := [0, 1, 13, 12, 4]
noncomputable def FL30 (base : Nat) : Tm → Prog (Nat × Tm) := evC cxL (evF cxL keeps 3) ⟨30, 26, keeps 30, base⟩ 0 (bodyX 30 0)
def TL30 (a : List I) (b : List I) (i : Int) (n : Int) : Tm := [(0, .sl (.st (.pair (.int .i64) (.int .i64))) a), (1, .sl (.st (.pair (.int .i64) (.int .i64))) b), (13, .int .i64 i), (12, .int .i64 n), (4, .bool false)]
def HL30  : Hp := ⟨[], 0⟩
def keepL22 : List Nat := [0, 1, 5, 4]
noncomputable def FL22 (base : Nat) : Tm → Prog (Nat × Tm) := evC cxL (evF cxL keeps 3) ⟨22, 26, keeps 22, base⟩ 0 (bodyX 22 0)
def TL22 (a : List I) (b : List I) (i : Int) : Tm := [(0, .sl (.st (.pair (.int .i64) (.int .i64))) a), (1, .sl (.st (.pair (.int .i64) (.int .i64))) b), (5, .int .i64 i), (4, .bool false)]
def HL22  : Hp := ⟨[], 0⟩
def keepL15 : List Nat := [3, 36, 35, 34, 6]
noncomputable def FL15 (base : Nat) : Tm → Prog (Nat × Tm) := evC cxL (evF cxL keeps 3) ⟨15, 50, keeps 15, base⟩ 0 (bodyX 15 0)
def TL15 (i : Int) (n : Int) (l : List Int) : Tm := [(3, .ptr 0 0), (36, .int .i64 i), (35, .int .i64 n), (34, .sl (.int .i64) l), (6, .bool false)]
def HL15 (w : E) : Hp := ⟨[(0, .box [.bool w.1, .sl tI w.2.1, .sl tI w.2.2.1, .sl tI w.2.2.2.1, .int .i64 w.2.2.2.2.1, .int .i64 w.2.2.2.2.2])], 1⟩
end Go.Proofs.Ytpahnadbknjepaa.Ex

/- Loops L: each round. -/
namespace Go.Proofs.Ytpahnadbknjepaa.Ex
open Go.Proofs Go.Proofs.Ytpahnadbknjepaa
set_option maxRecDepth 100000
set_option linter.unusedVariables false
set_option linter.unusedSimpArgs false
theorem rnd28 {R : Type} (i : Int) (n : Int) (a : List I) (b : List I) (K : Nat → Tm → Hp → Option R) : round 0 keepL28 (FL28 0) (TL28 i n a b) (HL28 ) K =
  bif Decidable.decide (i < n) then
    bif Decidable.decide (0 ≤ i) then
      Go.Proofs.Ytpahnadbknjepaa.Ex.optC a[i.toNat]? Option.none fun d6 ↦
        bif Decidable.decide (0 ≤ i) then
          bif !Go.Proofs.Ytpahnadbknjepaa.Ex.leqB d6 (Go.Proofs.Ytpahnadbknjepaa.Ex.atV b i) then
            K 1
              [(9, Go.Proofs.Ytpahnadbknjepaa.Ex.AV.int Go.IntKind.i64 i), (8, Go.Proofs.Ytpahnadbknjepaa.Ex.AV.int Go.IntKind.i64 n), (7, Go.Proofs.Ytpahnadbknjepaa.Ex.AV.sl ((Go.Proofs.Ytpahnadbknjepaa.Ex.Ty.int Go.IntKind.i64).pair (Go.Proofs.Ytpahnadbknjepaa.Ex.Ty.int Go.IntKind.i64)).st a),
                (1, Go.Proofs.Ytpahnadbknjepaa.Ex.AV.sl ((Go.Proofs.Ytpahnadbknjepaa.Ex.Ty.int Go.IntKind.i64).pair (Go.Proofs.Ytpahnadbknjepaa.Ex.Ty.int Go.IntKind.i64)).st b), (4, Go.Proofs.Ytpahnadbknjepaa.Ex.AV.bool Bool.false)]
              { blks := [], c := 0 }
          else
            K 0
              [(9, Go.Proofs.Ytpahnadbknjepaa.Ex.AV.int Go.IntKind.i64 (Go.IntKind.i64.wrap (i + 1))), (8, Go.Proofs.Ytpahnadbknjepaa.Ex.AV.int Go.IntKind.i64 n),
                (7, Go.Proofs.Ytpahnadbknjepaa.Ex.AV.sl ((Go.Proofs.Ytpahnadbknjepaa.Ex.Ty.int Go.IntKind.i64).pair (Go.Proofs.Ytpahnadbknjepaa.Ex.Ty.int Go.IntKind.i64)).st a), (1, Go.Proofs.Ytpahnadbknjepaa.Ex.AV.sl ((Go.Proofs.Ytpahnadbknjepaa.Ex.Ty.int Go.IntKind.i64).pair (Go.Proofs.Ytpahnadbknjepaa.Ex.Ty.int Go.IntKind.i64)).st b),
                (4, Go.Proofs.Ytpahnadbknjepaa.Ex.AV.bool Bool.false)]
              { blks := [], c := 0 }
        else Option.none
    else Option.none
  else
    K 2
      [(9, Go.Proofs.Ytpahnadbknjepaa.Ex.AV.int Go.IntKind.i64 i), (8, Go.Proofs.Ytpahnadbknjepaa.Ex.AV.int Go.IntKind.i64 n), (7, Go.Proofs.Ytpahnadbknjepaa.Ex.AV.sl ((Go.Proofs.Ytpahnadbknjepaa.Ex.Ty.int Go.IntKind.i64).pair (Go.Proofs.Ytpahnadbknjepaa.Ex.Ty.int Go.IntKind.i64)).st a),
        (1, Go.Proofs.Ytpahnadbknjepaa.Ex.AV.sl ((Go.Proofs.Ytpahnadbknjepaa.Ex.Ty.int Go.IntKind.i64).pair (Go.Proofs.Ytpahnadbknjepaa.Ex.Ty.int Go.IntKind.i64)).st b), (4, Go.Proofs.Ytpahnadbknjepaa.Ex.AV.bool Bool.false)]
      { blks := [], c := 0 } := by kernel_rfl
theorem rnd35 {R : Type} (i : Int) (a : List I) (b : List I) (K : Nat → Tm → Hp → Option R) : round 0 keepL35 (FL35 0) (TL35 i a b) (HL35 ) K =
  bif Decidable.decide (i < (↑a.length : Int)) then
    bif Decidable.decide (0 ≤ i) then
      Go.Proofs.Ytpahnadbknjepaa.Ex.optC a[i.toNat]? Option.none fun d5 ↦
        bif Decidable.decide (0 ≤ i) then
          bif !Go.Proofs.Ytpahnadbknjepaa.Ex.leqB d5 (Go.Proofs.Ytpahnadbknjepaa.Ex.atV b i) then
            K 1
              [(5, Go.Proofs.Ytpahnadbknjepaa.Ex.AV.int Go.IntKind.i64 i), (0, Go.Proofs.Ytpahnadbknjepaa.Ex.AV.sl ((Go.Proofs.Ytpahnadbknjepaa.Ex.Ty.int Go.IntKind.i64).pair (Go.Proofs.Ytpahnadbknjepaa.Ex.Ty.int Go.IntKind.i64)).st a),
                (1, Go.Proofs.Ytpahnadbknjepaa.Ex.AV.sl ((Go.Proofs.Ytpahnadbknjepaa.Ex.Ty.int Go.IntKind.i64).pair (Go.Proofs.Ytpahnadbknjepaa.Ex.Ty.int Go.IntKind.i64)).st b), (4, Go.Proofs.Ytpahnadbknjepaa.Ex.AV.bool Bool.false)]
              { blks := [], c := 0 }
          else
            K 0
              [(5, Go.Proofs.Ytpahnadbknjepaa.Ex.AV.int Go.IntKind.i64 (Go.IntKind.i64.wrap (i + 1))), (0, Go.Proofs.Ytpahnadbknjepaa.Ex.AV.sl ((Go.Proofs.Ytpahnadbknjepaa.Ex.Ty.int Go.IntKind.i64).pair (Go.Proofs.Ytpahnadbknjepaa.Ex.Ty.int Go.IntKind.i64)).st a),
                (1, Go.Proofs.Ytpahnadbknjepaa.Ex.AV.sl ((Go.Proofs.Ytpahnadbknjepaa.Ex.Ty.int Go.IntKind.i64).pair (Go.Proofs.Ytpahnadbknjepaa.Ex.Ty.int Go.IntKind.i64)).st b), (4, Go.Proofs.Ytpahnadbknjepaa.Ex.AV.bool Bool.false)]
              { blks := [], c := 0 }
        else Option.none
    else Option.none
  else
    K 2
      [(5, Go.Proofs.Ytpahnadbknjepaa.Ex.AV.int Go.IntKind.i64 i), (0, Go.Proofs.Ytpahnadbknjepaa.Ex.AV.sl ((Go.Proofs.Ytpahnadbknjepaa.Ex.Ty.int Go.IntKind.i64).pair (Go.Proofs.Ytpahnadbknjepaa.Ex.Ty.int Go.IntKind.i64)).st a),
        (1, Go.Proofs.Ytpahnadbknjepaa.Ex.AV.sl ((Go.Proofs.Ytpahnadbknjepaa.Ex.Ty.int Go.IntKind.i64).pair (Go.Proofs.Ytpahnadbknjepaa.Ex.Ty.int Go.IntKind.i64)).st b), (4, Go.Proofs.Ytpahnadbknjepaa.Ex.AV.bool Bool.false)]
      { blks := [], c := 0 } := by kernel_rfl
theorem rnd30 {R : Type} (a : List I) (b : List I) (i : Int) (n : Int) (K : Nat → Tm → Hp → Option R) : round 0 keepL30 (FL30 0) (TL30 a b i n) (HL30 ) K =
  bif Decidable.decide (i < n) then
    bif Decidable.decide (0 ≤ i) then
      Go.Proofs.Ytpahnadbknjepaa.Ex.optC a[i.toNat]? Option.none fun d6 ↦
        bif Decidable.decide (0 ≤ i) then
          Go.Proofs.Ytpahnadbknjepaa.Ex.optC b[i.toNat]? Option.none fun d7 ↦
            bif !(d6.fst == d7.fst && d6.snd == d7.snd) then
              K 1
                [(0, Go.Proofs.Ytpahnadbknjepaa.Ex.AV.sl ((Go.Proofs.Ytpahnadbknjepaa.Ex.Ty.int Go.IntKind.i64).pair (Go.Proofs.Ytpahnadbknjepaa.Ex.Ty.int Go.IntKind.i64)).st a), (1, Go.Proofs.Ytpahnadbknjepaa.Ex.AV.sl ((Go.Proofs.Ytpahnadbknjepaa.Ex.Ty.int Go.IntKind.i64).pair (Go.Proofs.Ytpahnadbknjepaa.Ex.Ty.int Go.IntKind.i64)).st b),
                  (13, Go.Proofs.Ytpahnadbknjepaa.Ex.AV.int Go.IntKind.i64 i), (12, Go.Proofs.Ytpahnadbknjepaa.Ex.AV.int Go.IntKind.i64 n), (4, Go.Proofs.Ytpahnadbknjepaa.Ex.AV.bool Bool.false)]
                { blks := [], c := 0 }
            else
              K 0
                [(0, Go.Proofs.Ytpahnadbknjepaa.Ex.AV.sl ((Go.Proofs.Ytpahnadbknjepaa.Ex.Ty.int Go.IntKind.i64).pair (Go.Proofs.Ytpahnadbknjepaa.Ex.Ty.int Go.IntKind.i64)).st a), (1, Go.Proofs.Ytpahnadbknjepaa.Ex.AV.sl ((Go.Proofs.Ytpahnadbknjepaa.Ex.Ty.int Go.IntKind.i64).pair (Go.Proofs.Ytpahnadbknjepaa.Ex.Ty.int Go.IntKind.i64)).st b),
                  (13, Go.Proofs.Ytpahnadbknjepaa.Ex.AV.int Go.IntKind.i64 (Go.IntKind.i64.wrap (i + 1))), (12, Go.Proofs.Ytpahnadbknjepaa.Ex.AV.int Go.IntKind.i64 n), (4, Go.Proofs.Ytpahnadbknjepaa.Ex.AV.bool Bool.false)]
                { blks := [], c := 0 }
        else Option.none
    else Option.none
  else
    K 2
      [(0, Go.Proofs.Ytpahnadbknjepaa.Ex.AV.sl ((Go.Proofs.Ytpahnadbknjepaa.Ex.Ty.int Go.IntKind.i64).pair (Go.Proofs.Ytpahnadbknjepaa.Ex.Ty.int Go.IntKind.i64)).st a), (1, Go.Proofs.Ytpahnadbknjepaa.Ex.AV.sl ((Go.Proofs.Ytpahnadbknjepaa.Ex.Ty.int Go.IntKind.i64).pair (Go.Proofs.Ytpahnadbknjepaa.Ex.Ty.int Go.IntKind.i64)).st b),
        (13, Go.Proofs.Ytpahnadbknjepaa.Ex.AV.int Go.IntKind.i64 i), (12, Go.Proofs.Ytpahnadbknjepaa.Ex.AV.int Go.IntKind.i64 n), (4, Go.Proofs.Ytpahnadbknjepaa.Ex.AV.bool Bool.false)]
      { blks := [], c := 0 } := by kernel_rfl
theorem rnd22 {R : Type} (a : List I) (b : List I) (i : Int) (K : Nat → Tm → Hp → Option R) : round 0 keepL22 (FL22 0) (TL22 a b i) (HL22 ) K =
  bif Decidable.decide (i < (↑a.length : Int)) then
    bif Decidable.decide (0 ≤ i) then
      Go.Proofs.Ytpahnadbknjepaa.Ex.optC a[i.toNat]? Option.none fun d5 ↦
        bif Decidable.decide (0 ≤ i) then
          Go.Proofs.Ytpahnadbknjepaa.Ex.optC b[i.toNat]? Option.none fun d6 ↦
            bif !(d5.fst == d6.fst && d5.snd == d6.snd) then
              K 1
                [(0, Go.Proofs.Ytpahnadbknjepaa.Ex.AV.sl ((Go.Proofs.Ytpahnadbknjepaa.Ex.Ty.int Go.IntKind.i64).pair (Go.Proofs.Ytpahnadbknjepaa.Ex.Ty.int Go.IntKind.i64)).st a), (1, Go.Proofs.Ytpahnadbknjepaa.Ex.AV.sl ((Go.Proofs.Ytpahnadbknjepaa.Ex.Ty.int Go.IntKind.i64).pair (Go.Proofs.Ytpahnadbknjepaa.Ex.Ty.int Go.IntKind.i64)).st b),
                  (5, Go.Proofs.Ytpahnadbknjepaa.Ex.AV.int Go.IntKind.i64 i), (4, Go.Proofs.Ytpahnadbknjepaa.Ex.AV.bool Bool.false)]
                { blks := [], c := 0 }
            else
              K 0
                [(0, Go.Proofs.Ytpahnadbknjepaa.Ex.AV.sl ((Go.Proofs.Ytpahnadbknjepaa.Ex.Ty.int Go.IntKind.i64).pair (Go.Proofs.Ytpahnadbknjepaa.Ex.Ty.int Go.IntKind.i64)).st a), (1, Go.Proofs.Ytpahnadbknjepaa.Ex.AV.sl ((Go.Proofs.Ytpahnadbknjepaa.Ex.Ty.int Go.IntKind.i64).pair (Go.Proofs.Ytpahnadbknjepaa.Ex.Ty.int Go.IntKind.i64)).st b),
                  (5, Go.Proofs.Ytpahnadbknjepaa.Ex.AV.int Go.IntKind.i64 (Go.IntKind.i64.wrap (i + 1))), (4, Go.Proofs.Ytpahnadbknjepaa.Ex.AV.bool Bool.false)]
                { blks := [], c := 0 }
        else Option.none
    else Option.none
  else
    K 2
      [(0, Go.Proofs.Ytpahnadbknjepaa.Ex.AV.sl ((Go.Proofs.Ytpahnadbknjepaa.Ex.Ty.int Go.IntKind.i64).pair (Go.Proofs.Ytpahnadbknjepaa.Ex.Ty.int Go.IntKind.i64)).st a), (1, Go.Proofs.Ytpahnadbknjepaa.Ex.AV.sl ((Go.Proofs.Ytpahnadbknjepaa.Ex.Ty.int Go.IntKind.i64).pair (Go.Proofs.Ytpahnadbknjepaa.Ex.Ty.int Go.IntKind.i64)).st b),
        (5, Go.Proofs.Ytpahnadbknjepaa.Ex.AV.int Go.IntKind.i64 i), (4, Go.Proofs.Ytpahnadbknjepaa.Ex.AV.bool Bool.false)]
      { blks := [], c := 0 } := by kernel_rfl
theorem rnd15 {R : Type} (i : Int) (n : Int) (l : List Int) (w : E) (K : Nat → Tm → Hp → Option R) : round 0 keepL15 (FL15 0) (TL15 i n l) (HL15 w) K =
  bif Decidable.decide (i < n) then
    bif Decidable.decide (0 ≤ i) then
      Go.Proofs.Ytpahnadbknjepaa.Ex.optC l[i.toNat]? Option.none fun d6 ↦
        bif Decidable.decide (0 ≤ i) then
          Go.Proofs.Ytpahnadbknjepaa.Ex.optC w.snd.fst[i.toNat]? Option.none fun d7 ↦
            bif !Go.Proofs.Ytpahnadbknjepaa.Ex.hasB d7 d6 then
              K 1 [(3, Go.Proofs.Ytpahnadbknjepaa.Ex.AV.ptr 0 0), (36, Go.Proofs.Ytpahnadbknjepaa.Ex.AV.int Go.IntKind.i64 i), (35, Go.Proofs.Ytpahnadbknjepaa.Ex.AV.int Go.IntKind.i64 n), (34, Go.Proofs.Ytpahnadbknjepaa.Ex.AV.sl (Go.Proofs.Ytpahnadbknjepaa.Ex.Ty.int Go.IntKind.i64) l), (6, Go.Proofs.Ytpahnadbknjepaa.Ex.AV.bool Bool.false)]
                {
                  blks :=
                    [(0,
                        Go.Proofs.Ytpahnadbknjepaa.Ex.Blk.box
                          [Go.Proofs.Ytpahnadbknjepaa.Ex.AV.bool w.fst, Go.Proofs.Ytpahnadbknjepaa.Ex.AV.sl ((Go.Proofs.Ytpahnadbknjepaa.Ex.Ty.int Go.IntKind.i64).pair (Go.Proofs.Ytpahnadbknjepaa.Ex.Ty.int Go.IntKind.i64)).st w.snd.fst,
                            Go.Proofs.Ytpahnadbknjepaa.Ex.AV.sl ((Go.Proofs.Ytpahnadbknjepaa.Ex.Ty.int Go.IntKind.i64).pair (Go.Proofs.Ytpahnadbknjepaa.Ex.Ty.int Go.IntKind.i64)).st w.snd.snd.fst,
                            Go.Proofs.Ytpahnadbknjepaa.Ex.AV.sl ((Go.Proofs.Ytpahnadbknjepaa.Ex.Ty.int Go.IntKind.i64).pair (Go.Proofs.Ytpahnadbknjepaa.Ex.Ty.int Go.IntKind.i64)).st w.snd.snd.snd.fst, Go.Proofs.Ytpahnadbknjepaa.Ex.AV.int Go.IntKind.i64 w.snd.snd.snd.snd.fst,
                            Go.Proofs.Ytpahnadbknjepaa.Ex.AV.int Go.IntKind.i64 w.snd.snd.snd.snd.snd])],
                  c := 1 }
            else
              K 0
                [(3, Go.Proofs.Ytpahnadbknjepaa.Ex.AV.ptr 0 0), (36, Go.Proofs.Ytpahnadbknjepaa.Ex.AV.int Go.IntKind.i64 (Go.IntKind.i64.wrap (i + 1))), (35, Go.Proofs.Ytpahnadbknjepaa.Ex.AV.int Go.IntKind.i64 n), (34, Go.Proofs.Ytpahnadbknjepaa.Ex.AV.sl (Go.Proofs.Ytpahnadbknjepaa.Ex.Ty.int Go.IntKind.i64) l),
                  (6, Go.Proofs.Ytpahnadbknjepaa.Ex.AV.bool Bool.false)]
                {
                  blks :=
                    [(0,
                        Go.Proofs.Ytpahnadbknjepaa.Ex.Blk.box
                          [Go.Proofs.Ytpahnadbknjepaa.Ex.AV.bool w.fst, Go.Proofs.Ytpahnadbknjepaa.Ex.AV.sl ((Go.Proofs.Ytpahnadbknjepaa.Ex.Ty.int Go.IntKind.i64).pair (Go.Proofs.Ytpahnadbknjepaa.Ex.Ty.int Go.IntKind.i64)).st w.snd.fst,
                            Go.Proofs.Ytpahnadbknjepaa.Ex.AV.sl ((Go.Proofs.Ytpahnadbknjepaa.Ex.Ty.int Go.IntKind.i64).pair (Go.Proofs.Ytpahnadbknjepaa.Ex.Ty.int Go.IntKind.i64)).st w.snd.snd.fst,
                            Go.Proofs.Ytpahnadbknjepaa.Ex.AV.sl ((Go.Proofs.Ytpahnadbknjepaa.Ex.Ty.int Go.IntKind.i64).pair (Go.Proofs.Ytpahnadbknjepaa.Ex.Ty.int Go.IntKind.i64)).st w.snd.snd.snd.fst, Go.Proofs.Ytpahnadbknjepaa.Ex.AV.int Go.IntKind.i64 w.snd.snd.snd.snd.fst,
                            Go.Proofs.Ytpahnadbknjepaa.Ex.AV.int Go.IntKind.i64 w.snd.snd.snd.snd.snd])],
                  c := 1 }
        else Option.none
    else Option.none
  else
    K 2 [(3, Go.Proofs.Ytpahnadbknjepaa.Ex.AV.ptr 0 0), (36, Go.Proofs.Ytpahnadbknjepaa.Ex.AV.int Go.IntKind.i64 i), (35, Go.Proofs.Ytpahnadbknjepaa.Ex.AV.int Go.IntKind.i64 n), (34, Go.Proofs.Ytpahnadbknjepaa.Ex.AV.sl (Go.Proofs.Ytpahnadbknjepaa.Ex.Ty.int Go.IntKind.i64) l), (6, Go.Proofs.Ytpahnadbknjepaa.Ex.AV.bool Bool.false)]
      {
        blks :=
          [(0,
              Go.Proofs.Ytpahnadbknjepaa.Ex.Blk.box
                [Go.Proofs.Ytpahnadbknjepaa.Ex.AV.bool w.fst, Go.Proofs.Ytpahnadbknjepaa.Ex.AV.sl ((Go.Proofs.Ytpahnadbknjepaa.Ex.Ty.int Go.IntKind.i64).pair (Go.Proofs.Ytpahnadbknjepaa.Ex.Ty.int Go.IntKind.i64)).st w.snd.fst,
                  Go.Proofs.Ytpahnadbknjepaa.Ex.AV.sl ((Go.Proofs.Ytpahnadbknjepaa.Ex.Ty.int Go.IntKind.i64).pair (Go.Proofs.Ytpahnadbknjepaa.Ex.Ty.int Go.IntKind.i64)).st w.snd.snd.fst,
                  Go.Proofs.Ytpahnadbknjepaa.Ex.AV.sl ((Go.Proofs.Ytpahnadbknjepaa.Ex.Ty.int Go.IntKind.i64).pair (Go.Proofs.Ytpahnadbknjepaa.Ex.Ty.int Go.IntKind.i64)).st w.snd.snd.snd.fst, Go.Proofs.Ytpahnadbknjepaa.Ex.AV.int Go.IntKind.i64 w.snd.snd.snd.snd.fst,
                  Go.Proofs.Ytpahnadbknjepaa.Ex.AV.int Go.IntKind.i64 w.snd.snd.snd.snd.snd])],
        c := 1 } := by kernel_rfl
end Go.Proofs.Ytpahnadbknjepaa.Ex

/- Loops L: what they come to. -/
namespace Go.Proofs.Ytpahnadbknjepaa.Ex
open Go.Proofs Go.Proofs.Ytpahnadbknjepaa
set_option maxRecDepth 100000
set_option linter.unusedVariables false
set_option linter.unusedSimpArgs false
def stepL28 (b : List I)  (i : Nat)  (d : I) : (Unit) ⊕ (Nat) := if leqB d (atV b (i : Nat)) then .inl () else .inr i
def outL28 (b : List I) (a : List I) : (Nat) → Out3 := fun e => ((1, TL28 (e : Nat) (a.length : Nat) a b), HL28 )
def vL28 (b : List I) (a : List I) (s : Unit) : (Unit) ⊕ (Nat) := runS (fun i s d => stepL28 b  i  d) 0 a s
theorem runL28 (b : List I) (a : List I) (hl : a.length ≤ 4611686018427387904) (s : Unit)  :
    go (iterM 0 keepL28 (FL28 0) (a.length + 1) (TL28 0 (a.length : Nat) a b)) (HL28 ) = some ((vL28 b a s).elim (fun s => (((2, TL28 (a.length : Nat) (a.length : Nat) a b), HL28 ) : Out3)) (outL28 b a)) := by
  have key := range_loop (keep := keepL28) (F := FL28 0) (fun i s => True) a (fun i s => TL28 (i : Nat) (a.length : Nat) a b) (fun i s => HL28 ) (fun i s d => (stepL28 b  i  d).elim .inl (fun e =>   .inr (outL28 b a e))) (fun s => (((2, TL28 (a.length : Nat) (a.length : Nat) a b), HL28 ) : Out3)) ?_ ?_ ?_ ?_ ?_ a 0 s rfl (Nat.zero_le _) trivial
  · rw [runL_elim] at key
    exact key
  · intro i s d hi hd hm hI K
    skip
    rw [rnd28]
    have e1 : decide ((i : Int) < ((a.length : Nat) : Int)) = true := decide_eq_true (by omega)
    have e2 : decide (0 ≤ (i : Int)) = true := decide_eq_true (by omega)
    rw [e1, e2, Int.toNat_natCast, wrap_up hi hl]
    rw [hd]; simp only [optC, cond_true]; unfold stepL28; cases leqB d (atV b (i : Nat)) <;> rfl
  · intros; trivial
  · intro i s d x e; revert e; cases stepL28 b  i  d with | inl a => intro e; cases e | inr a => intro e; cases e; exact nofun
  · intro s K
    rw [rnd28]
    have e1 : decide (((a.length : Nat) : Int) < ((a.length : Nat) : Int)) = false := decide_eq_false (by omega)
    rw [e1]
    rfl
  · intro s; exact nofun
def dT28 : Tm → Option (Int × Int × List I × List I)
  | [(9, .int .i64 i), (8, .int .i64 n), (7, .sl (.st (.pair (.int .i64) (.int .i64))) a), (1, .sl (.st (.pair (.int .i64) (.int .i64))) b), (4, .bool false)] => some (i, n, a, b)
  | _ => none
def dH28 : Hp → Option (Unit)
  | ⟨[], 0⟩ => some ()
  | _ => none
theorem dT28_some {T : Tm} {t : Int × Int × List I × List I} (e : dT28 T = some t) : T = TL28 (t.1) (t.2.1) (t.2.2.1) (t.2.2.2) := by
  unfold dT28 at e
  split at e
  · cases e; rfl
  · cases e
theorem dH28_some {h : Hp} {u : Unit} (e : dH28 h = some u) : h = HL28  := by
  unfold dH28 at e
  split at e
  · cases e; rfl
  · cases e
def qL28 (base : Nat) (T : Tm) : Prog (Nat × Tm) := match base with
  | 0 => match dT28 T with
    | some t => loopB dH28 (fun u => ((t.1) == 0) && ((t.2.1) == ((t.2.2.1).length : Nat)) && decide (((t.2.2.1).length : Int) ≤ 4611686018427387904)) (fun u => vL28 (t.2.2.2) (t.2.2.1) ()) (fun u s => (((2, TL28 ((t.2.2.1).length : Nat) ((t.2.2.1).length : Nat) (t.2.2.1) (t.2.2.2)), HL28 ) : Out3)) (fun u e => outL28 (t.2.2.2) (t.2.2.1) e)
    | none => .fail
  | _ + 1 => .fail
theorem qgo28 (base : Nat) (T : Tm) (h : Hp) (r : Nat × Tm) (h' : Hp) (e : go (qL28 base T) h = some (r, h')) : ∃ m, go (iterM base keepL28 (FL28 base) m T) h = some (r, h') := by
  unfold qL28 at e
  split at e
  · split at e
    · rename_i t ht
      obtain ⟨u, hu, c, e2⟩ := loopB_go e
      rw [dT28_some ht, dH28_some hu]
      simp only [Bool.and_eq_true, beq_iff_eq, decide_eq_true_eq] at c
      skip
      skip
      obtain ⟨⟨c1, c2⟩, c3⟩ := c
      refine ⟨(t.2.2.1).length + 1, ?_⟩
      rw [c1, c2]
      rw [e2]
      have := runL28 (t.2.2.2) (t.2.2.1) (by omega) () 
      revert this; unfold Sum.elim; cases vL28 (t.2.2.2) (t.2.2.1) () <;> exact id
    · cases e
  · cases e
noncomputable def lpL28 (base : Nat) (T : Tm) : Prog (Nat × Tm) := .norm base keepL28 T (qL28 base)
theorem sndL28 : SoundC Try.prog 21 (.loop (bodyX 28 0)) lpL28 :=
  loop_sound (cx := cxL) (cal := evF cxL keeps 3) (kp := keeps 28) (tabOk_of tab_ok) (cmpsOk_of tab_ok cmps_ok) calL mixed (by intro q hq p hp; cases hp) qgo28
def stepL35 (b : List I)  (i : Nat)  (d : I) : (Unit) ⊕ (Nat) := if leqB d (atV b (i : Nat)) then .inl () else .inr i
def outL35 (b : List I) (a : List I) : (Nat) → Out3 := fun e => ((1, TL35 (e : Nat) a b), HL35 )
def vL35 (b : List I) (a : List I) (s : Unit) : (Unit) ⊕ (Nat) := runS (fun i s d => stepL35 b  i  d) 0 a s
theorem runL35 (b : List I) (a : List I) (hl : a.length ≤ 4611686018427387904) (s : Unit)  :
    go (iterM 0 keepL35 (FL35 0) (a.length + 1) (TL35 0 a b)) (HL35 ) = some ((vL35 b a s).elim (fun s => (((2, TL35 (a.length : Nat) a b), HL35 ) : Out3)) (outL35 b a)) := by
  have key := range_loop (keep := keepL35) (F := FL35 0) (fun i s => True) a (fun i s => TL35 (i : Nat) a b) (fun i s => HL35 ) (fun i s d => (stepL35 b  i  d).elim .inl (fun e =>   .inr (outL35 b a e))) (fun s => (((2, TL35 (a.length : Nat) a b), HL35 ) : Out3)) ?_ ?_ ?_ ?_ ?_ a 0 s rfl (Nat.zero_le _) trivial
  · rw [runL_elim] at key
    exact key
  · intro i s d hi hd hm hI K
    skip
    rw [rnd35]
    have e1 : decide ((i : Int) < ((a.length : Nat) : Int)) = true := decide_eq_true (by omega)
    have e2 : decide (0 ≤ (i : Int)) = true := decide_eq_true (by omega)
    rw [e1, e2, Int.toNat_natCast, wrap_up hi hl]
    rw [hd]; simp only [optC, cond_true]; unfold stepL35; cases leqB d (atV b (i : Nat)) <;> rfl
  · intros; trivial
  · intro i s d x e; revert e; cases stepL35 b  i  d with | inl a => intro e; cases e | inr a => intro e; cases e; exact nofun
  · intro s K
    rw [rnd35]
    have e1 : decide (((a.length : Nat) : Int) < ((a.length : Nat) : Int)) = false := decide_eq_false (by omega)
    rw [e1]
    rfl
  · intro s; exact nofun
def dT35 : Tm → Option (Int × List I × List I)
  | [(5, .int .i64 i), (0, .sl (.st (.pair (.int .i64) (.int .i64))) a), (1, .sl (.st (.pair (.int .i64) (.int .i64))) b), (4, .bool false)] => some (i, a, b)
  | _ => none
def dH35 : Hp → Option (Unit)
  | ⟨[], 0⟩ => some ()
  | _ => none
theorem dT35_some {T : Tm} {t : Int × List I × List I} (e : dT35 T = some t) : T = TL35 (t.1) (t.2.1) (t.2.2) := by
  unfold dT35 at e
  split at e
  · cases e; rfl
  · cases e
theorem dH35_some {h : Hp} {u : Unit} (e : dH35 h = some u) : h = HL35  := by
  unfold dH35 at e
  split at e
  · cases e; rfl
  · cases e
def qL35 (base : Nat) (T : Tm) : Prog (Nat × Tm) := match base with
  | 0 => match dT35 T with
    | some t => loopB dH35 (fun u => ((t.1) == 0) && decide (((t.2.1).length : Int) ≤ 4611686018427387904)) (fun u => vL35 (t.2.2) (t.2.1) ()) (fun u s => (((2, TL35 ((t.2.1).length : Nat) (t.2.1) (t.2.2)), HL35 ) : Out3)) (fun u e => outL35 (t.2.2) (t.2.1) e)
    | none => .fail
  | _ + 1 => .fail
theorem qgo35 (base : Nat) (T : Tm) (h : Hp) (r : Nat × Tm) (h' : Hp) (e : go (qL35 base T) h = some (r, h')) : ∃ m, go (iterM base keepL35 (FL35 base) m T) h = some (r, h') := by
  unfold qL35 at e
  split at e
  · split at e
    · rename_i t ht
      obtain ⟨u, hu, c, e2⟩ := loopB_go e
      rw [dT35_some ht, dH35_some hu]
      simp only [Bool.and_eq_true, beq_iff_eq, decide_eq_true_eq] at c
      skip
      skip
      obtain ⟨c1, c3⟩ := c
      refine ⟨(t.2.1).length + 1, ?_⟩
      rw [c1]
      rw [e2]
      have := runL35 (t.2.2) (t.2.1) (by omega) () 
      revert this; unfold Sum.elim; cases vL35 (t.2.2) (t.2.1) () <;> exact id
    · cases e
  · cases e
noncomputable def lpL35 (base : Nat) (T : Tm) : Prog (Nat × Tm) := .norm base keepL35 T (qL35 base)
theorem sndL35 : SoundC Try.prog 21 (.loop (bodyX 35 0)) lpL35 :=
  loop_sound (cx := cxL) (cal := evF cxL keeps 3) (kp := keeps 35) (tabOk_of tab_ok) (cmpsOk_of tab_ok cmps_ok) calL mixed (by intro q hq p hp; cases hp) qgo35
def stepL30 (b : List I)  (i : Nat)  (d : I) : (Unit) ⊕ (Nat) := if eqI d ((b[i]?).getD nn) then .inl () else .inr i
def allL30 (b : List I) (l0 : List I) : Bool := l0.all fun d => Nat.beq b.length l0.length
def outL30 (b : List I) (a : List I) : (Nat) → Out3 := fun e => ((1, TL30 a b (e : Nat) (a.length : Nat)), HL30 )
def vL30 (b : List I) (a : List I) (s : Unit) : (Unit) ⊕ (Nat) := runS (fun i s d => stepL30 b  i  d) 0 a s
theorem runL30 (b : List I) (a : List I) (hl : a.length ≤ 4611686018427387904) (ha : allL30 b a = true) (s : Unit)  :
    go (iterM 0 keepL30 (FL30 0) (a.length + 1) (TL30 a b 0 (a.length : Nat))) (HL30 ) = some ((vL30 b a s).elim (fun s => (((2, TL30 a b (a.length : Nat) (a.length : Nat)), HL30 ) : Out3)) (outL30 b a)) := by
  have key := range_loop (keep := keepL30) (F := FL30 0) (fun i s => True) a (fun i s => TL30 a b (i : Nat) (a.length : Nat)) (fun i s => HL30 ) (fun i s d => (stepL30 b  i  d).elim .inl (fun e =>   .inr (outL30 b a e))) (fun s => (((2, TL30 a b (a.length : Nat) (a.length : Nat)), HL30 ) : Out3)) ?_ ?_ ?_ ?_ ?_ a 0 s rfl (Nat.zero_le _) trivial
  · rw [runL_elim] at key
    exact key
  · intro i s d hi hd hm hI K
    have ha := List.all_eq_true.1 ha d hm
    rw [rnd30]
    have e1 : decide ((i : Int) < ((a.length : Nat) : Int)) = true := decide_eq_true (by omega)
    have e2 : decide (0 ≤ (i : Int)) = true := decide_eq_true (by omega)
    rw [e1, e2, Int.toNat_natCast, wrap_up hi hl]
    rw [hd]
    have hb : i < b.length := by rw [nb_iff.1 ha]; exact hi
    obtain ⟨d2, hd2⟩ : ∃ d2, b[i]? = some d2 := ⟨b[i], List.getElem?_eq_getElem hb⟩
    have es : stepL30 b i d = if eqI d d2 then .inl () else .inr i := by unfold stepL30; rw [hd2]; rfl
    rw [es, hd2]; simp only [optC, cond_true]; rw [show (d.1 == d2.1 && d.2 == d2.2) = eqI d d2 from rfl]; cases eqI d d2 <;> rfl
  · intros; trivial
  · intro i s d x e; revert e; cases stepL30 b  i  d with | inl a => intro e; cases e | inr a => intro e; cases e; exact nofun
  · intro s K
    rw [rnd30]
    have e1 : decide (((a.length : Nat) : Int) < ((a.length : Nat) : Int)) = false := decide_eq_false (by omega)
    rw [e1]
    rfl
  · intro s; exact nofun
def dT30 : Tm → Option (List I × List I × Int × Int)
  | [(0, .sl (.st (.pair (.int .i64) (.int .i64))) a), (1, .sl (.st (.pair (.int .i64) (.int .i64))) b), (13, .int .i64 i), (12, .int .i64 n), (4, .bool false)] => some (a, b, i, n)
  | _ => none
def dH30 : Hp → Option (Unit)
  | ⟨[], 0⟩ => some ()
  | _ => none
theorem dT30_some {T : Tm} {t : List I × List I × Int × Int} (e : dT30 T = some t) : T = TL30 (t.1) (t.2.1) (t.2.2.1) (t.2.2.2) := by
  unfold dT30 at e
  split at e
  · cases e; rfl
  · cases e
theorem dH30_some {h : Hp} {u : Unit} (e : dH30 h = some u) : h = HL30  := by
  unfold dH30 at e
  split at e
  · cases e; rfl
  · cases e
def qL30 (base : Nat) (T : Tm) : Prog (Nat × Tm) := match base with
  | 0 => match dT30 T with
    | some t => loopB dH30 (fun u => ((t.2.2.1) == 0) && ((t.2.2.2) == ((t.1).length : Nat)) && decide (((t.1).length : Int) ≤ 4611686018427387904) && allL30 (t.2.1) (t.1)) (fun u => vL30 (t.2.1) (t.1) ()) (fun u s => (((2, TL30 (t.1) (t.2.1) ((t.1).length : Nat) ((t.1).length : Nat)), HL30 ) : Out3)) (fun u e => outL30 (t.2.1) (t.1) e)
    | none => .fail
  | _ + 1 => .fail
theorem qgo30 (base : Nat) (T : Tm) (h : Hp) (r : Nat × Tm) (h' : Hp) (e : go (qL30 base T) h = some (r, h')) : ∃ m, go (iterM base keepL30 (FL30 base) m T) h = some (r, h') := by
  unfold qL30 at e
  split at e
  · split at e
    · rename_i t ht
      obtain ⟨u, hu, c, e2⟩ := loopB_go e
      rw [dT30_some ht, dH30_some hu]
      simp only [Bool.and_eq_true, beq_iff_eq, decide_eq_true_eq] at c
      skip
      obtain ⟨c, ca⟩ := c
      obtain ⟨⟨c1, c2⟩, c3⟩ := c
      refine ⟨(t.1).length + 1, ?_⟩
      rw [c1, c2]
      rw [e2]
      have := runL30 (t.2.1) (t.1) (by omega) ca () 
      revert this; unfold Sum.elim; cases vL30 (t.2.1) (t.1) () <;> exact id
    · cases e
  · cases e
noncomputable def lpL30 (base : Nat) (T : Tm) : Prog (Nat × Tm) := .norm base keepL30 T (qL30 base)
theorem sndL30 : SoundC Try.prog 26 (.loop (bodyX 30 0)) lpL30 :=
  loop_sound (cx := cxL) (cal := evF cxL keeps 3) (kp := keeps 30) (tabOk_of tab_ok) (cmpsOk_of tab_ok cmps_ok) calL mixed (by intro q hq p hp; cases hp) qgo30
def stepL22 (b : List I)  (i : Nat)  (d : I) : (Unit) ⊕ (Nat) := if eqI d ((b[i]?).getD nn) then .inl () else .inr i
def allL22 (b : List I) (l0 : List I) : Bool := l0.all fun d => Nat.beq b.length l0.length
def outL22 (b : List I) (a : List I) : (Nat) → Out3 := fun e => ((1, TL22 a b (e : Nat)), HL22 )
def vL22 (b : List I) (a : List I) (s : Unit) : (Unit) ⊕ (Nat) := runS (fun i s d => stepL22 b  i  d) 0 a s
theorem runL22 (b : List I) (a : List I) (hl : a.length ≤ 4611686018427387904) (ha : allL22 b a = true) (s : Unit)  :
    go (iterM 0 keepL22 (FL22 0) (a.length + 1) (TL22 a b 0)) (HL22 ) = some ((vL22 b a s).elim (fun s => (((2, TL22 a b (a.length : Nat)), HL22 ) : Out3)) (outL22 b a)) := by
  have key := range_loop (keep := keepL22) (F := FL22 0) (fun i s => True) a (fun i s => TL22 a b (i : Nat)) (fun i s => HL22 ) (fun i s d => (stepL22 b  i  d).elim .inl (fun e =>   .inr (outL22 b a e))) (fun s => (((2, TL22 a b (a.length : Nat)), HL22 ) : Out3)) ?_ ?_ ?_ ?_ ?_ a 0 s rfl (Nat.zero_le _) trivial
  · rw [runL_elim] at key
    exact key
  · intro i s d hi hd hm hI K
    have ha := List.all_eq_true.1 ha d hm
    rw [rnd22]
    have e1 : decide ((i : Int) < ((a.length : Nat) : Int)) = true := decide_eq_true (by omega)
    have e2 : decide (0 ≤ (i : Int)) = true := decide_eq_true (by omega)
    rw [e1, e2, Int.toNat_natCast, wrap_up hi hl]
    rw [hd]
    have hb : i < b.length := by rw [nb_iff.1 ha]; exact hi
    obtain ⟨d2, hd2⟩ : ∃ d2, b[i]? = some d2 := ⟨b[i], List.getElem?_eq_getElem hb⟩
    have es : stepL22 b i d = if eqI d d2 then .inl () else .inr i := by unfold stepL22; rw [hd2]; rfl
    rw [es, hd2]; simp only [optC, cond_true]; rw [show (d.1 == d2.1 && d.2 == d2.2) = eqI d d2 from rfl]; cases eqI d d2 <;> rfl
  · intros; trivial
  · intro i s d x e; revert e; cases stepL22 b  i  d with | inl a => intro e; cases e | inr a => intro e; cases e; exact nofun
  · intro s K
    rw [rnd22]
    have e1 : decide (((a.length : Nat) : Int) < ((a.length : Nat) : Int)) = false := decide_eq_false (by omega)
    rw [e1]
    rfl
  · intro s; exact nofun
def dT22 : Tm → Option (List I × List I × Int)
  | [(0, .sl (.st (.pair (.int .i64) (.int .i64))) a), (1, .sl (.st (.pair (.int .i64) (.int .i64))) b), (5, .int .i64 i), (4, .bool false)] => some (a, b, i)
  | _ => none
def dH22 : Hp → Option (Unit)
  | ⟨[], 0⟩ => some ()
  | _ => none
theorem dT22_some {T : Tm} {t : List I × List I × Int} (e : dT22 T = some t) : T = TL22 (t.1) (t.2.1) (t.2.2) := by
  unfold dT22 at e
  split at e
  · cases e; rfl
  · cases e
theorem dH22_some {h : Hp} {u : Unit} (e : dH22 h = some u) : h = HL22  := by
  unfold dH22 at e
  split at e
  · cases e; rfl
  · cases e
def qL22 (base : Nat) (T : Tm) : Prog (Nat × Tm) := match base with
  | 0 => match dT22 T with
    | some t => loopB dH22 (fun u => ((t.2.2) == 0) && decide (((t.1).length : Int) ≤ 4611686018427387904) && allL22 (t.2.1) (t.1)) (fun u => vL22 (t.2.1) (t.1) ()) (fun u s => (((2, TL22 (t.1) (t.2.1) ((t.1).length : Nat)), HL22 ) : Out3)) (fun u e => outL22 (t.2.1) (t.1) e)
    | none => .fail
  | _ + 1 => .fail
theorem qgo22 (base : Nat) (T : Tm) (h : Hp) (r : Nat × Tm) (h' : Hp) (e : go (qL22 base T) h = some (r, h')) : ∃ m, go (iterM base keepL22 (FL22 base) m T) h = some (r, h') := by
  unfold qL22 at e
  split at e
  · split at e
    · rename_i t ht
      obtain ⟨u, hu, c, e2⟩ := loopB_go e
      rw [dT22_some ht, dH22_some hu]
      simp only [Bool.and_eq_true, beq_iff_eq, decide_eq_true_eq] at c
      skip
      obtain ⟨c, ca⟩ := c
      obtain ⟨c1, c3⟩ := c
      refine ⟨(t.1).length + 1, ?_⟩
      rw [c1]
      rw [e2]
      have := runL22 (t.2.1) (t.1) (by omega) ca () 
      revert this; unfold Sum.elim; cases vL22 (t.2.1) (t.1) () <;> exact id
    · cases e
  · cases e
noncomputable def lpL22 (base : Nat) (T : Tm) : Prog (Nat × Tm) := .norm base keepL22 T (qL22 base)
theorem sndL22 : SoundC Try.prog 26 (.loop (bodyX 22 0)) lpL22 :=
  loop_sound (cx := cxL) (cal := evF cxL keeps 3) (kp := keeps 22) (tabOk_of tab_ok) (cmpsOk_of tab_ok cmps_ok) calL mixed (by intro q hq p hp; cases hp) qgo22
def stepL15 (w : E)  (i : Nat)  (d : Int) : (Unit) ⊕ (Nat) := if hasB ((w.2.1[i]?).getD nn) d then .inl () else .inr i
def allL15 (w : E) (l0 : List Int) : Bool := l0.all fun d => Nat.beq w.2.1.length l0.length
def outL15 (w : E) (l : List Int) : (Nat) → Out3 := fun e2 => ((1, TL15 (e2 : Nat) (l.length : Nat) l), HL15 w)
def vL15 (w : E) (l : List Int) (s : Unit) : (Unit) ⊕ (Nat) := runS (fun i s d => stepL15 w  i  d) 0 l s
theorem runL15 (w : E) (l : List Int) (hl : l.length ≤ 4611686018427387904) (ha : allL15 w l = true) (s : Unit)  :
    go (iterM 0 keepL15 (FL15 0) (l.length + 1) (TL15 0 (l.length : Nat) l)) (HL15 w) = some ((vL15 w l s).elim (fun s => (((2, TL15 (l.length : Nat) (l.length : Nat) l), HL15 w) : Out3)) (outL15 w l)) := by
  have key := range_loop (keep := keepL15) (F := FL15 0) (fun i s => True) l (fun i s => TL15 (i : Nat) (l.length : Nat) l) (fun i s => HL15 w) (fun i s d => (stepL15 w  i  d).elim .inl (fun e =>   .inr (outL15 w l e))) (fun s => (((2, TL15 (l.length : Nat) (l.length : Nat) l), HL15 w) : Out3)) ?_ ?_ ?_ ?_ ?_ l 0 s rfl (Nat.zero_le _) trivial
  · rw [runL_elim] at key
    exact key
  · intro i s d hi hd hm hI K
    have ha := List.all_eq_true.1 ha d hm
    rw [rnd15]
    have e1 : decide ((i : Int) < ((l.length : Nat) : Int)) = true := decide_eq_true (by omega)
    have e2 : decide (0 ≤ (i : Int)) = true := decide_eq_true (by omega)
    rw [e1, e2, Int.toNat_natCast, wrap_up hi hl]
    rw [hd]
    have hb : i < w.2.1.length := by rw [nb_iff.1 ha]; exact hi
    obtain ⟨d2, hd2⟩ : ∃ d2, (w.2.1)[i]? = some d2 := ⟨(w.2.1)[i], List.getElem?_eq_getElem hb⟩
    have es : stepL15 w i d = if hasB d2 d then .inl () else .inr i := by unfold stepL15; rw [hd2]; rfl
    rw [es, hd2]; simp only [optC, cond_true]; cases hasB d2 d <;> rfl
  · intros; trivial
  · intro i s d x e; revert e; cases stepL15 w  i  d with | inl a => intro e; cases e | inr a => intro e; cases e; exact nofun
  · intro s K
    rw [rnd15]
    have e1 : decide (((l.length : Nat) : Int) < ((l.length : Nat) : Int)) = false := decide_eq_false (by omega)
    rw [e1]
    rfl
  · intro s; exact nofun
def dT15 : Tm → Option (Int × Int × List Int)
  | [(3, .ptr 0 0), (36, .int .i64 i), (35, .int .i64 n), (34, .sl (.int .i64) l), (6, .bool false)] => some (i, n, l)
  | _ => none
def dH15 : Hp → Option (E)
  | ⟨[(0, .box [.bool w1, .sl (.st (.pair (.int .i64) (.int .i64))) w2, .sl (.st (.pair (.int .i64) (.int .i64))) w3, .sl (.st (.pair (.int .i64) (.int .i64))) w4, .int .i64 w5, .int .i64 w6])], 1⟩ => some (w1, w2, w3, w4, w5, w6)
  | _ => none
theorem dT15_some {T : Tm} {t : Int × Int × List Int} (e : dT15 T = some t) : T = TL15 (t.1) (t.2.1) (t.2.2) := by
  unfold dT15 at e
  split at e
  · cases e; rfl
  · cases e
theorem dH15_some {h : Hp} {u : E} (e : dH15 h = some u) : h = HL15 (u) := by
  unfold dH15 at e
  split at e
  · cases e; rfl
  · cases e
def qL15 (base : Nat) (T : Tm) : Prog (Nat × Tm) := match base with
  | 0 => match dT15 T with
    | some t => loopB dH15 (fun u => ((t.1) == 0) && ((t.2.1) == ((t.2.2).length : Nat)) && decide (((t.2.2).length : Int) ≤ 4611686018427387904) && allL15 (u) (t.2.2)) (fun u => vL15 (u) (t.2.2) ()) (fun u s => (((2, TL15 ((t.2.2).length : Nat) ((t.2.2).length : Nat) (t.2.2)), HL15 (u)) : Out3)) (fun u e => outL15 (u) (t.2.2) e)
    | none => .fail
  | _ + 1 => .fail
theorem qgo15 (base : Nat) (T : Tm) (h : Hp) (r : Nat × Tm) (h' : Hp) (e : go (qL15 base T) h = some (r, h')) : ∃ m, go (iterM base keepL15 (FL15 base) m T) h = some (r, h') := by
  unfold qL15 at e
  split at e
  · split at e
    · rename_i t ht
      obtain ⟨u, hu, c, e2⟩ := loopB_go e
      rw [dT15_some ht, dH15_some hu]
      simp only [Bool.and_eq_true, beq_iff_eq, decide_eq_true_eq] at c
      skip
      obtain ⟨c, ca⟩ := c
      obtain ⟨⟨c1, c2⟩, c3⟩ := c
      refine ⟨(t.2.2).length + 1, ?_⟩
      rw [c1, c2]
      rw [e2]
      have := runL15 (u) (t.2.2) (by omega) ca () 
      revert this; unfold Sum.elim; cases vL15 (u) (t.2.2) () <;> exact id
    · cases e
  · cases e
noncomputable def lpL15 (base : Nat) (T : Tm) : Prog (Nat × Tm) := .norm base keepL15 T (qL15 base)
theorem sndL15 : SoundC Try.prog 50 (.loop (bodyX 15 0)) lpL15 :=
  loop_sound (cx := cxL) (cal := evF cxL keeps 3) (kp := keeps 15) (tabOk_of tab_ok) (cmpsOk_of tab_ok cmps_ok) calL mixed (by intro q hq p hp; cases hp) qgo15
end Go.Proofs.Ytpahnadbknjepaa.Ex

/- Loops N: where each round begins. -/
namespace Go.Proofs.Ytpahnadbknjepaa.Ex
open Go.Proofs Go.Proofs.Ytpahnadbknjepaa
set_option maxRecDepth 100000
set_option linter.unusedVariables false
set_option linter.unusedSimpArgs false
def keepL8i : List Nat := [3, 0, 5, 4, 2]
noncomputable def FL8i (base : Nat) : Tm → Prog (Nat × Tm) := evC cxL (evF cxL keeps 3) ⟨8, 138, keeps 8, base⟩ 2 (bodyX 8 2)
def TL8i (io : Int) (l : List E) (i : Int) : Tm := [(3, .int .i64 io), (0, .sl (.st (.pair .bool (.pair (.sl (.st (.pair (.int .i64) (.int .i64)))) (.pair (.sl (.st (.pair (.int .i64) (.int .i64)))) (.pair (.sl (.st (.pair (.int .i64) (.int .i64)))) (.pair (.int .i64) (.int .i64))))))) l), (5, .int .i64 i), (4, .row 0), (2, .bool false)]
def HL8i (q : List I) : Hp := ⟨[(0, .row (.st (.pair (.int .i64) (.int .i64))) q)], 1⟩
end Go.Proofs.Ytpahnadbknjepaa.Ex

/- Loops N: each round. -/
namespace Go.Proofs.Ytpahnadbknjepaa.Ex
open Go.Proofs Go.Proofs.Ytpahnadbknjepaa
set_option maxRecDepth 100000
set_option linter.unusedVariables false
set_option linter.unusedSimpArgs false
theorem rnd8i {R : Type} (io : Int) (l : List E) (i : Int) (q : List I) (K : Nat → Tm → Hp → Option R) : round 0 keepL8i (FL8i 0) (TL8i io l i) (HL8i q) K =
  bif Decidable.decide (i < (↑q.length : Int)) then
    bif Decidable.decide (0 ≤ i) then
      Go.Proofs.Ytpahnadbknjepaa.Ex.optC q[i.toNat]? Option.none fun d6 ↦
        Go.Proofs.Ytpahnadbknjepaa.Ex.optC q[i.toNat]? Option.none fun d7 ↦
          bif !Go.Proofs.Ytpahnadbknjepaa.Ex.isB d7 then
            K 1
              [(3, Go.Proofs.Ytpahnadbknjepaa.Ex.AV.int Go.IntKind.i64 io),
                (0,
                  Go.Proofs.Ytpahnadbknjepaa.Ex.AV.sl
                    (Go.Proofs.Ytpahnadbknjepaa.Ex.Ty.bool.pair
                        (((Go.Proofs.Ytpahnadbknjepaa.Ex.Ty.int Go.IntKind.i64).pair (Go.Proofs.Ytpahnadbknjepaa.Ex.Ty.int Go.IntKind.i64)).st.sl.pair
                          (((Go.Proofs.Ytpahnadbknjepaa.Ex.Ty.int Go.IntKind.i64).pair (Go.Proofs.Ytpahnadbknjepaa.Ex.Ty.int Go.IntKind.i64)).st.sl.pair
                            (((Go.Proofs.Ytpahnadbknjepaa.Ex.Ty.int Go.IntKind.i64).pair (Go.Proofs.Ytpahnadbknjepaa.Ex.Ty.int Go.IntKind.i64)).st.sl.pair ((Go.Proofs.Ytpahnadbknjepaa.Ex.Ty.int Go.IntKind.i64).pair (Go.Proofs.Ytpahnadbknjepaa.Ex.Ty.int Go.IntKind.i64)))))).st
                    l),
                (5, Go.Proofs.Ytpahnadbknjepaa.Ex.AV.int Go.IntKind.i64 i), (4, Go.Proofs.Ytpahnadbknjepaa.Ex.AV.row 0), (2, Go.Proofs.Ytpahnadbknjepaa.Ex.AV.bool Bool.false)]
              { blks := [(0, Go.Proofs.Ytpahnadbknjepaa.Ex.Blk.row ((Go.Proofs.Ytpahnadbknjepaa.Ex.Ty.int Go.IntKind.i64).pair (Go.Proofs.Ytpahnadbknjepaa.Ex.Ty.int Go.IntKind.i64)).st q)], c := 1 }
          else
            K 0
              [(3, Go.Proofs.Ytpahnadbknjepaa.Ex.AV.int Go.IntKind.i64 io),
                (0,
                  Go.Proofs.Ytpahnadbknjepaa.Ex.AV.sl
                    (Go.Proofs.Ytpahnadbknjepaa.Ex.Ty.bool.pair
                        (((Go.Proofs.Ytpahnadbknjepaa.Ex.Ty.int Go.IntKind.i64).pair (Go.Proofs.Ytpahnadbknjepaa.Ex.Ty.int Go.IntKind.i64)).st.sl.pair
                          (((Go.Proofs.Ytpahnadbknjepaa.Ex.Ty.int Go.IntKind.i64).pair (Go.Proofs.Ytpahnadbknjepaa.Ex.Ty.int Go.IntKind.i64)).st.sl.pair
                            (((Go.Proofs.Ytpahnadbknjepaa.Ex.Ty.int Go.IntKind.i64).pair (Go.Proofs.Ytpahnadbknjepaa.Ex.Ty.int Go.IntKind.i64)).st.sl.pair ((Go.Proofs.Ytpahnadbknjepaa.Ex.Ty.int Go.IntKind.i64).pair (Go.Proofs.Ytpahnadbknjepaa.Ex.Ty.int Go.IntKind.i64)))))).st
                    l),
                (5, Go.Proofs.Ytpahnadbknjepaa.Ex.AV.int Go.IntKind.i64 (Go.IntKind.i64.wrap (i + 1))), (4, Go.Proofs.Ytpahnadbknjepaa.Ex.AV.row 0), (2, Go.Proofs.Ytpahnadbknjepaa.Ex.AV.bool Bool.false)]
              { blks := [(0, Go.Proofs.Ytpahnadbknjepaa.Ex.Blk.row ((Go.Proofs.Ytpahnadbknjepaa.Ex.Ty.int Go.IntKind.i64).pair (Go.Proofs.Ytpahnadbknjepaa.Ex.Ty.int Go.IntKind.i64)).st q)], c := 1 }
    else Option.none
  else
    K 4
      [(3, Go.Proofs.Ytpahnadbknjepaa.Ex.AV.int Go.IntKind.i64 io),
        (0,
          Go.Proofs.Ytpahnadbknjepaa.Ex.AV.sl
            (Go.Proofs.Ytpahnadbknjepaa.Ex.Ty.bool.pair
                (((Go.Proofs.Ytpahnadbknjepaa.Ex.Ty.int Go.IntKind.i64).pair (Go.Proofs.Ytpahnadbknjepaa.Ex.Ty.int Go.IntKind.i64)).st.sl.pair
                  (((Go.Proofs.Ytpahnadbknjepaa.Ex.Ty.int Go.IntKind.i64).pair (Go.Proofs.Ytpahnadbknjepaa.Ex.Ty.int Go.IntKind.i64)).st.sl.pair
                    (((Go.Proofs.Ytpahnadbknjepaa.Ex.Ty.int Go.IntKind.i64).pair (Go.Proofs.Ytpahnadbknjepaa.Ex.Ty.int Go.IntKind.i64)).st.sl.pair ((Go.Proofs.Ytpahnadbknjepaa.Ex.Ty.int Go.IntKind.i64).pair (Go.Proofs.Ytpahnadbknjepaa.Ex.Ty.int Go.IntKind.i64)))))).st
            l),
        (5, Go.Proofs.Ytpahnadbknjepaa.Ex.AV.int Go.IntKind.i64 i), (4, Go.Proofs.Ytpahnadbknjepaa.Ex.AV.row 0), (2, Go.Proofs.Ytpahnadbknjepaa.Ex.AV.bool Bool.false)]
      { blks := [(0, Go.Proofs.Ytpahnadbknjepaa.Ex.Blk.row ((Go.Proofs.Ytpahnadbknjepaa.Ex.Ty.int Go.IntKind.i64).pair (Go.Proofs.Ytpahnadbknjepaa.Ex.Ty.int Go.IntKind.i64)).st q)], c := 1 } := by kernel_rfl
end Go.Proofs.Ytpahnadbknjepaa.Ex

/- Loops N: what they come to. -/
namespace Go.Proofs.Ytpahnadbknjepaa.Ex
open Go.Proofs Go.Proofs.Ytpahnadbknjepaa
set_option maxRecDepth 100000
set_option linter.unusedVariables false
set_option linter.unusedSimpArgs false
def stepL8i (io : Int) (l : List E)  (i : Nat)  (d : I) : (Unit) ⊕ (Nat) := if isB d then .inl () else .inr i
def outL8i (io : Int) (l : List E) (q : List I) : (Nat) → Out3 := fun e => ((1, TL8i io l (e : Nat)), HL8i q)
def vL8i (io : Int) (l : List E) (q : List I) (s : Unit) : (Unit) ⊕ (Nat) := runS (fun i s d => stepL8i io l  i  d) 0 q s
theorem runL8i (io : Int) (l : List E) (q : List I) (hl : q.length ≤ 4611686018427387904) (s : Unit)  :
    go (iterM 0 keepL8i (FL8i 0) (q.length + 1) (TL8i io l 0)) (HL8i q) = some ((vL8i io l q s).elim (fun s => (((4, TL8i io l (q.length : Nat)), HL8i q) : Out3)) (outL8i io l q)) := by
  have key := range_loop (keep := keepL8i) (F := FL8i 0) (fun i s => True) q (fun i s => TL8i io l (i : Nat)) (fun i s => HL8i q) (fun i s d => (stepL8i io l  i  d).elim .inl (fun e =>   .inr (outL8i io l q e))) (fun s => (((4, TL8i io l (q.length : Nat)), HL8i q) : Out3)) ?_ ?_ ?_ ?_ ?_ q 0 s rfl (Nat.zero_le _) trivial
  · rw [runL_elim] at key
    exact key
  · intro i s d hi hd hm hI K
    skip
    rw [rnd8i]
    have e1 : decide ((i : Int) < ((q.length : Nat) : Int)) = true := decide_eq_true (by omega)
    have e2 : decide (0 ≤ (i : Int)) = true := decide_eq_true (by omega)
    rw [e1, e2, Int.toNat_natCast, wrap_up hi hl]
    rw [hd]; simp only [optC, cond_true]; unfold stepL8i; cases isB d <;> rfl
  · intros; trivial
  · intro i s d x e; revert e; cases stepL8i io l  i  d with | inl a => intro e; cases e | inr a => intro e; cases e; exact nofun
  · intro s K
    rw [rnd8i]
    have e1 : decide (((q.length : Nat) : Int) < ((q.length : Nat) : Int)) = false := decide_eq_false (by omega)
    rw [e1]
    rfl
  · intro s; exact nofun
def dT8i : Tm → Option (Int × List E × Int)
  | [(3, .int .i64 io), (0, .sl (.st (.pair .bool (.pair (.sl (.st (.pair (.int .i64) (.int .i64)))) (.pair (.sl (.st (.pair (.int .i64) (.int .i64)))) (.pair (.sl (.st (.pair (.int .i64) (.int .i64)))) (.pair (.int .i64) (.int .i64))))))) l), (5, .int .i64 i), (4, .row 0), (2, .bool false)] => some (io, l, i)
  | _ => none
def dH8i : Hp → Option (List I)
  | ⟨[(0, .row (.st (.pair (.int .i64) (.int .i64))) q)], 1⟩ => some q
  | _ => none
theorem dT8i_some {T : Tm} {t : Int × List E × Int} (e : dT8i T = some t) : T = TL8i (t.1) (t.2.1) (t.2.2) := by
  unfold dT8i at e
  split at e
  · cases e; rfl
  · cases e
theorem dH8i_some {h : Hp} {u : List I} (e : dH8i h = some u) : h = HL8i (u) := by
  unfold dH8i at e
  split at e
  · cases e; rfl
  · cases e
def qL8i (base : Nat) (T : Tm) : Prog (Nat × Tm) := match base with
  | 0 => match dT8i T with
    | some t => loopB dH8i (fun u => ((t.2.2) == 0) && decide (((u).length : Int) ≤ 4611686018427387904)) (fun u => vL8i (t.1) (t.2.1) (u) ()) (fun u s => (((4, TL8i (t.1) (t.2.1) ((u).length : Nat)), HL8i (u)) : Out3)) (fun u e => outL8i (t.1) (t.2.1) (u) e)
    | none => .fail
  | _ + 1 => .fail
theorem qgo8i (base : Nat) (T : Tm) (h : Hp) (r : Nat × Tm) (h' : Hp) (e : go (qL8i base T) h = some (r, h')) : ∃ m, go (iterM base keepL8i (FL8i base) m T) h = some (r, h') := by
  unfold qL8i at e
  split at e
  · split at e
    · rename_i t ht
      obtain ⟨u, hu, c, e2⟩ := loopB_go e
      rw [dT8i_some ht, dH8i_some hu]
      simp only [Bool.and_eq_true, beq_iff_eq, decide_eq_true_eq] at c
      skip
      skip
      obtain ⟨c1, c3⟩ := c
      refine ⟨(u).length + 1, ?_⟩
      rw [c1]
      rw [e2]
      have := runL8i (t.1) (t.2.1) (u) (by omega) () 
      revert this; unfold Sum.elim; cases vL8i (t.1) (t.2.1) (u) () <;> exact id
    · cases e
  · cases e
noncomputable def lpL8i (base : Nat) (T : Tm) : Prog (Nat × Tm) := .norm base keepL8i T (qL8i base)
theorem sndL8i : SoundC Try.prog 138 (.loop (bodyX 8 2)) lpL8i :=
  loop_sound (cx := cxL) (cal := evF cxL keeps 3) (kp := keeps 8) (tabOk_of tab_ok) (cmpsOk_of tab_ok cmps_ok) calL mixed (by intro q hq p hp; cases hp) qgo8i
end Go.Proofs.Ytpahnadbknjepaa.Ex

/- Loops O: where each round begins. -/
namespace Go.Proofs.Ytpahnadbknjepaa.Ex
open Go.Proofs Go.Proofs.Ytpahnadbknjepaa
set_option maxRecDepth 100000
set_option linter.unusedVariables false
set_option linter.unusedSimpArgs false
noncomputable def lpN : Nat → Nat → Option (Nat → Tm → Prog (Nat × Tm))
  | 8, 2 => some lpL8i
  | _, _ => none
noncomputable def cxN : Ctx := { tab := tab, spec := spL, inl := inl, lps := lpN, fuel := 10 }
theorem hl8 : ∀ q ∈ loopsOf 0 (bodyX 8 0), ∀ p, cxN.lps 8 q.1 = some p → SoundC Try.prog 138 (.loop q.2) p := by
  intro q hq p hp
  change lpN 8 q.1 = some p at hp
  generalize hq1 : q.1 = b at hp
  unfold lpN at hp
  split at hp
  · cases hp
    have e := find_nodup (b := 2) (l := loopsOf 0 (bodyX 8 0)) (by kernel_rfl) hq hq1
    have e2 : (loopsOf 0 (bodyX 8 0)).find? (fun q => Nat.beq q.1 2) = some (2, bodyX 8 2) := by kernel_rfl
    rw [e2] at e; cases e; exact sndL8i
  · cases hp
def lenE (e : E) : Bool := decide (e.2.1.length ≤ 1152921504606846976) && decide (e.2.2.1.length ≤ 1152921504606846976) && decide (e.2.2.2.1.length ≤ 1152921504606846976)
def rowE (e : E) : List I := e.2.1 ++ e.2.2.1 ++ e.2.2.2.1
def fitE (f e : E) : Bool := !decide (e.2.1.length + e.2.2.1.length + e.2.2.2.1.length > 120) && !decide (e.2.2.2.2.1 < 0) && !decide (e.2.2.2.2.2 < 0) && !decide (e.2.2.2.2.1 ≥ 2147483648) && !decide (e.2.2.2.2.2 ≥ 2147483648) && e.2.1.length == f.2.1.length && e.2.2.1.length == f.2.2.1.length && e.2.2.2.1.length == f.2.2.2.1.length && (rowE e).all isB
def zE : E := (false, [], [], [], 0, 0)
def fitsB (l : List E) : Bool := l.all (fitE ((l[0]?).getD zE))
def keepL8o : List Nat := [3, 0, 2]
noncomputable def FL8o (base : Nat) : Tm → Prog (Nat × Tm) := evC cxN (evF cxL keeps 3) ⟨8, 138, keeps 8, base⟩ 0 (bodyX 8 0)
def TL8o (i : Int) (l : List E) : Tm := [(3, .int .i64 i), (0, .sl (.st (.pair .bool (.pair (.sl (.st (.pair (.int .i64) (.int .i64)))) (.pair (.sl (.st (.pair (.int .i64) (.int .i64)))) (.pair (.sl (.st (.pair (.int .i64) (.int .i64)))) (.pair (.int .i64) (.int .i64))))))) l), (2, .bool false)]
def HL8o  : Hp := ⟨[], 0⟩
end Go.Proofs.Ytpahnadbknjepaa.Ex

/- Loops O: each round. -/
namespace Go.Proofs.Ytpahnadbknjepaa.Ex
open Go.Proofs Go.Proofs.Ytpahnadbknjepaa
set_option maxRecDepth 100000
set_option linter.unusedVariables false
set_option linter.unusedSimpArgs false
theorem rnd8o {R : Type} (i : Int) (l : List E) (K : Nat → Tm → Hp → Option R) : round 0 keepL8o (FL8o 0) (TL8o i l) (HL8o ) K =
  bif Decidable.decide (i < (↑l.length : Int)) then
    bif Decidable.decide (0 ≤ i) then
      Go.Proofs.Ytpahnadbknjepaa.Ex.optC l[i.toNat]? Option.none fun d4 ↦
        bif Decidable.decide (0 ≤ i) then
          Go.Proofs.Ytpahnadbknjepaa.Ex.optC l[i.toNat]? Option.none fun d5 ↦
            bif Decidable.decide (0 ≤ i) then
              Go.Proofs.Ytpahnadbknjepaa.Ex.optC l[i.toNat]? Option.none fun d6 ↦
                bif
                    Decidable.decide
                      (Go.IntKind.i64.wrap (Go.IntKind.i64.wrap ((↑(List.length d4.snd.fst) : Int) + (↑(List.length d5.snd.snd.fst) : Int)) + (↑(List.length d6.snd.snd.snd.fst) : Int)) > 120) then
                  K 1
                    [(3, Go.Proofs.Ytpahnadbknjepaa.Ex.AV.int Go.IntKind.i64 i),
                      (0,
                        Go.Proofs.Ytpahnadbknjepaa.Ex.AV.sl
                          (Go.Proofs.Ytpahnadbknjepaa.Ex.Ty.bool.pair
                              (((Go.Proofs.Ytpahnadbknjepaa.Ex.Ty.int Go.IntKind.i64).pair (Go.Proofs.Ytpahnadbknjepaa.Ex.Ty.int Go.IntKind.i64)).st.sl.pair
                                (((Go.Proofs.Ytpahnadbknjepaa.Ex.Ty.int Go.IntKind.i64).pair (Go.Proofs.Ytpahnadbknjepaa.Ex.Ty.int Go.IntKind.i64)).st.sl.pair
                                  (((Go.Proofs.Ytpahnadbknjepaa.Ex.Ty.int Go.IntKind.i64).pair (Go.Proofs.Ytpahnadbknjepaa.Ex.Ty.int Go.IntKind.i64)).st.sl.pair ((Go.Proofs.Ytpahnadbknjepaa.Ex.Ty.int Go.IntKind.i64).pair (Go.Proofs.Ytpahnadbknjepaa.Ex.Ty.int Go.IntKind.i64)))))).st
                          l),
                      (2, Go.Proofs.Ytpahnadbknjepaa.Ex.AV.bool Bool.false)]
                    { blks := [], c := 0 }
                else
                  bif Decidable.decide (0 ≤ i) then
                    Go.Proofs.Ytpahnadbknjepaa.Ex.optC l[i.toNat]? Option.none fun d7 ↦
                      bif Decidable.decide (d7.snd.snd.snd.snd.fst < 0) then
                        K 1
                          [(3, Go.Proofs.Ytpahnadbknjepaa.Ex.AV.int Go.IntKind.i64 i),
                            (0,
                              Go.Proofs.Ytpahnadbknjepaa.Ex.AV.sl
                                (Go.Proofs.Ytpahnadbknjepaa.Ex.Ty.bool.pair
                                    (((Go.Proofs.Ytpahnadbknjepaa.Ex.Ty.int Go.IntKind.i64).pair (Go.Proofs.Ytpahnadbknjepaa.Ex.Ty.int Go.IntKind.i64)).st.sl.pair
                                      (((Go.Proofs.Ytpahnadbknjepaa.Ex.Ty.int Go.IntKind.i64).pair (Go.Proofs.Ytpahnadbknjepaa.Ex.Ty.int Go.IntKind.i64)).st.sl.pair
                                        (((Go.Proofs.Ytpahnadbknjepaa.Ex.Ty.int Go.IntKind.i64).pair (Go.Proofs.Ytpahnadbknjepaa.Ex.Ty.int Go.IntKind.i64)).st.sl.pair ((Go.Proofs.Ytpahnadbknjepaa.Ex.Ty.int Go.IntKind.i64).pair (Go.Proofs.Ytpahnadbknjepaa.Ex.Ty.int Go.IntKind.i64)))))).st
                                l),
                            (2, Go.Proofs.Ytpahnadbknjepaa.Ex.AV.bool Bool.false)]
                          { blks := [], c := 0 }
                      else
                        bif Decidable.decide (0 ≤ i) then
                          Go.Proofs.Ytpahnadbknjepaa.Ex.optC l[i.toNat]? Option.none fun d8 ↦
                            bif Decidable.decide (d8.snd.snd.snd.snd.snd < 0) then
                              K 1
                                [(3, Go.Proofs.Ytpahnadbknjepaa.Ex.AV.int Go.IntKind.i64 i),
                                  (0,
                                    Go.Proofs.Ytpahnadbknjepaa.Ex.AV.sl
                                      (Go.Proofs.Ytpahnadbknjepaa.Ex.Ty.bool.pair
                                          (((Go.Proofs.Ytpahnadbknjepaa.Ex.Ty.int Go.IntKind.i64).pair (Go.Proofs.Ytpahnadbknjepaa.Ex.Ty.int Go.IntKind.i64)).st.sl.pair
                                            (((Go.Proofs.Ytpahnadbknjepaa.Ex.Ty.int Go.IntKind.i64).pair (Go.Proofs.Ytpahnadbknjepaa.Ex.Ty.int Go.IntKind.i64)).st.sl.pair
                                              (((Go.Proofs.Ytpahnadbknjepaa.Ex.Ty.int Go.IntKind.i64).pair (Go.Proofs.Ytpahnadbknjepaa.Ex.Ty.int Go.IntKind.i64)).st.sl.pair ((Go.Proofs.Ytpahnadbknjepaa.Ex.Ty.int Go.IntKind.i64).pair (Go.Proofs.Ytpahnadbknjepaa.Ex.Ty.int Go.IntKind.i64)))))).st
                                      l),
                                  (2, Go.Proofs.Ytpahnadbknjepaa.Ex.AV.bool Bool.false)]
                                { blks := [], c := 0 }
                            else
                              bif Decidable.decide (0 ≤ i) then
                                Go.Proofs.Ytpahnadbknjepaa.Ex.optC l[i.toNat]? Option.none fun d9 ↦
                                  bif Decidable.decide (d9.snd.snd.snd.snd.fst ≥ 2147483648) then
                                    K 1
                                      [(3, Go.Proofs.Ytpahnadbknjepaa.Ex.AV.int Go.IntKind.i64 i),
                                        (0,
                                          Go.Proofs.Ytpahnadbknjepaa.Ex.AV.sl
                                            (Go.Proofs.Ytpahnadbknjepaa.Ex.Ty.bool.pair
                                                (((Go.Proofs.Ytpahnadbknjepaa.Ex.Ty.int Go.IntKind.i64).pair (Go.Proofs.Ytpahnadbknjepaa.Ex.Ty.int Go.IntKind.i64)).st.sl.pair
                                                  (((Go.Proofs.Ytpahnadbknjepaa.Ex.Ty.int Go.IntKind.i64).pair (Go.Proofs.Ytpahnadbknjepaa.Ex.Ty.int Go.IntKind.i64)).st.sl.pair
                                                    (((Go.Proofs.Ytpahnadbknjepaa.Ex.Ty.int Go.IntKind.i64).pair (Go.Proofs.Ytpahnadbknjepaa.Ex.Ty.int Go.IntKind.i64)).st.sl.pair
                                                      ((Go.Proofs.Ytpahnadbknjepaa.Ex.Ty.int Go.IntKind.i64).pair (Go.Proofs.Ytpahnadbknjepaa.Ex.Ty.int Go.IntKind.i64)))))).st
                                            l),
                                        (2, Go.Proofs.Ytpahnadbknjepaa.Ex.AV.bool Bool.false)]
                                      { blks := [], c := 0 }
                                  else
                                    bif Decidable.decide (0 ≤ i) then
                                      Go.Proofs.Ytpahnadbknjepaa.Ex.optC l[i.toNat]? Option.none fun d10 ↦
                                        bif Decidable.decide (d10.snd.snd.snd.snd.snd ≥ 2147483648) then
                                          K 1
                                            [(3, Go.Proofs.Ytpahnadbknjepaa.Ex.AV.int Go.IntKind.i64 i),
                                              (0,
                                                Go.Proofs.Ytpahnadbknjepaa.Ex.AV.sl
                                                  (Go.Proofs.Ytpahnadbknjepaa.Ex.Ty.bool.pair
                                                      (((Go.Proofs.Ytpahnadbknjepaa.Ex.Ty.int Go.IntKind.i64).pair (Go.Proofs.Ytpahnadbknjepaa.Ex.Ty.int Go.IntKind.i64)).st.sl.pair
                                                        (((Go.Proofs.Ytpahnadbknjepaa.Ex.Ty.int Go.IntKind.i64).pair (Go.Proofs.Ytpahnadbknjepaa.Ex.Ty.int Go.IntKind.i64)).st.sl.pair
                                                          (((Go.Proofs.Ytpahnadbknjepaa.Ex.Ty.int Go.IntKind.i64).pair (Go.Proofs.Ytpahnadbknjepaa.Ex.Ty.int Go.IntKind.i64)).st.sl.pair
                                                            ((Go.Proofs.Ytpahnadbknjepaa.Ex.Ty.int Go.IntKind.i64).pair (Go.Proofs.Ytpahnadbknjepaa.Ex.Ty.int Go.IntKind.i64)))))).st
                                                  l),
                                              (2, Go.Proofs.Ytpahnadbknjepaa.Ex.AV.bool Bool.false)]
                                            { blks := [], c := 0 }
                                        else
                                          bif Decidable.decide (0 ≤ i) then
                                            Go.Proofs.Ytpahnadbknjepaa.Ex.optC l[i.toNat]? Option.none fun d11 ↦
                                              Go.Proofs.Ytpahnadbknjepaa.Ex.optC l[Int.toNat 0]? Option.none fun d12 ↦
                                                bif (↑(List.length d11.snd.fst) : Int) != (↑(List.length d12.snd.fst) : Int) then
                                                  K 1
                                                    [(3, Go.Proofs.Ytpahnadbknjepaa.Ex.AV.int Go.IntKind.i64 i),
                                                      (0,
                                                        Go.Proofs.Ytpahnadbknjepaa.Ex.AV.sl
                                                          (Go.Proofs.Ytpahnadbknjepaa.Ex.Ty.bool.pair
                                                              (((Go.Proofs.Ytpahnadbknjepaa.Ex.Ty.int Go.IntKind.i64).pair (Go.Proofs.Ytpahnadbknjepaa.Ex.Ty.int Go.IntKind.i64)).st.sl.pair
                                                                (((Go.Proofs.Ytpahnadbknjepaa.Ex.Ty.int Go.IntKind.i64).pair (Go.Proofs.Ytpahnadbknjepaa.Ex.Ty.int Go.IntKind.i64)).st.sl.pair
                                                                  (((Go.Proofs.Ytpahnadbknjepaa.Ex.Ty.int Go.IntKind.i64).pair (Go.Proofs.Ytpahnadbknjepaa.Ex.Ty.int Go.IntKind.i64)).st.sl.pair
                                                                    ((Go.Proofs.Ytpahnadbknjepaa.Ex.Ty.int Go.IntKind.i64).pair (Go.Proofs.Ytpahnadbknjepaa.Ex.Ty.int Go.IntKind.i64)))))).st
                                                          l),
                                                      (2, Go.Proofs.Ytpahnadbknjepaa.Ex.AV.bool Bool.false)]
                                                    { blks := [], c := 0 }
                                                else
                                                  bif Decidable.decide (0 ≤ i) then
                                                    Go.Proofs.Ytpahnadbknjepaa.Ex.optC l[i.toNat]? Option.none fun d13 ↦
                                                      Go.Proofs.Ytpahnadbknjepaa.Ex.optC l[Int.toNat 0]? Option.none fun d14 ↦
                                                        bif (↑(List.length d13.snd.snd.fst) : Int) != (↑(List.length d14.snd.snd.fst) : Int) then
                                                          K 1
                                                            [(3, Go.Proofs.Ytpahnadbknjepaa.Ex.AV.int Go.IntKind.i64 i),
                                                              (0,
                                                                Go.Proofs.Ytpahnadbknjepaa.Ex.AV.sl
                                                                  (Go.Proofs.Ytpahnadbknjepaa.Ex.Ty.bool.pair
                                                                      (((Go.Proofs.Ytpahnadbknjepaa.Ex.Ty.int Go.IntKind.i64).pair (Go.Proofs.Ytpahnadbknjepaa.Ex.Ty.int Go.IntKind.i64)).st.sl.pair
                                                                        (((Go.Proofs.Ytpahnadbknjepaa.Ex.Ty.int Go.IntKind.i64).pair (Go.Proofs.Ytpahnadbknjepaa.Ex.Ty.int Go.IntKind.i64)).st.sl.pair
                                                                          (((Go.Proofs.Ytpahnadbknjepaa.Ex.Ty.int Go.IntKind.i64).pair (Go.Proofs.Ytpahnadbknjepaa.Ex.Ty.int Go.IntKind.i64)).st.sl.pair
                                                                            ((Go.Proofs.Ytpahnadbknjepaa.Ex.Ty.int Go.IntKind.i64).pair (Go.Proofs.Ytpahnadbknjepaa.Ex.Ty.int Go.IntKind.i64)))))).st
                                                                  l),
                                                              (2, Go.Proofs.Ytpahnadbknjepaa.Ex.AV.bool Bool.false)]
                                                            { blks := [], c := 0 }
                                                        else
                                                          bif Decidable.decide (0 ≤ i) then
                                                            Go.Proofs.Ytpahnadbknjepaa.Ex.optC l[i.toNat]? Option.none fun d15 ↦
                                                              Go.Proofs.Ytpahnadbknjepaa.Ex.optC l[Int.toNat 0]? Option.none fun d16 ↦
                                                                bif (↑(List.length d15.snd.snd.snd.fst) : Int) != (↑(List.length d16.snd.snd.snd.fst) : Int) then
                                                                  K 1
                                                                    [(3, Go.Proofs.Ytpahnadbknjepaa.Ex.AV.int Go.IntKind.i64 i),
                                                                      (0,
                                                                        Go.Proofs.Ytpahnadbknjepaa.Ex.AV.sl
                                                                          (Go.Proofs.Ytpahnadbknjepaa.Ex.Ty.bool.pair
                                                                              (((Go.Proofs.Ytpahnadbknjepaa.Ex.Ty.int Go.IntKind.i64).pair (Go.Proofs.Ytpahnadbknjepaa.Ex.Ty.int Go.IntKind.i64)).st.sl.pair
                                                                                (((Go.Proofs.Ytpahnadbknjepaa.Ex.Ty.int Go.IntKind.i64).pair (Go.Proofs.Ytpahnadbknjepaa.Ex.Ty.int Go.IntKind.i64)).st.sl.pair
                                                                                  (((Go.Proofs.Ytpahnadbknjepaa.Ex.Ty.int Go.IntKind.i64).pair (Go.Proofs.Ytpahnadbknjepaa.Ex.Ty.int Go.IntKind.i64)).st.sl.pair
                                                                                    ((Go.Proofs.Ytpahnadbknjepaa.Ex.Ty.int Go.IntKind.i64).pair (Go.Proofs.Ytpahnadbknjepaa.Ex.Ty.int Go.IntKind.i64)))))).st
                                                                          l),
                                                                      (2, Go.Proofs.Ytpahnadbknjepaa.Ex.AV.bool Bool.false)]
                                                                    { blks := [], c := 0 }
                                                                else
                                                                  bif Decidable.decide (0 ≤ i) then
                                                                    Go.Proofs.Ytpahnadbknjepaa.Ex.optC l[i.toNat]? Option.none fun d17 ↦
                                                                      bif Decidable.decide (((List.length (α := Go.Proofs.Ytpahnadbknjepaa.Ex.I) []) + List.length d17.snd.fst + 1) * 16 ≤ Go.Proofs.Ytpahnadbknjepaa.Ex.lim) then
                                                                        bif Decidable.decide (0 ≤ i) then
                                                                          Go.Proofs.Ytpahnadbknjepaa.Ex.optC l[i.toNat]? Option.none fun d18 ↦
                                                                            bif Decidable.decide ((([] ++ d17.snd.fst).length + List.length d18.snd.snd.fst + 1) * 16 ≤ Go.Proofs.Ytpahnadbknjepaa.Ex.lim) then
                                                                              bif Decidable.decide (0 ≤ i) then
                                                                                Go.Proofs.Ytpahnadbknjepaa.Ex.optC l[i.toNat]? Option.none fun d19 ↦
                                                                                  bif
                                                                                      Decidable.decide
                                                                                        ((([] ++ d17.snd.fst ++ d18.snd.snd.fst).length + List.length d19.snd.snd.snd.fst + 1) * 16 ≤ Go.Proofs.Ytpahnadbknjepaa.Ex.lim) then
                                                                                    bif
                                                                                        0 == 0 &&
                                                                                          Decidable.decide
                                                                                            ((↑([] ++ d17.snd.fst ++ d18.snd.snd.fst ++ d19.snd.snd.snd.fst).length : Int) ≤ 4611686018427387904) then
                                                                                      Sum.elim
                                                                                        (fun e20 ↦
                                                                                          K 0
                                                                                            [(3, Go.Proofs.Ytpahnadbknjepaa.Ex.AV.int Go.IntKind.i64 (Go.IntKind.i64.wrap (i + 1))),
                                                                                              (0,
                                                                                                Go.Proofs.Ytpahnadbknjepaa.Ex.AV.sl
                                                                                                  (Go.Proofs.Ytpahnadbknjepaa.Ex.Ty.bool.pair
                                                                                                      (((Go.Proofs.Ytpahnadbknjepaa.Ex.Ty.int Go.IntKind.i64).pair (Go.Proofs.Ytpahnadbknjepaa.Ex.Ty.int Go.IntKind.i64)).st.sl.pair
                                                                                                        (((Go.Proofs.Ytpahnadbknjepaa.Ex.Ty.int Go.IntKind.i64).pair (Go.Proofs.Ytpahnadbknjepaa.Ex.Ty.int Go.IntKind.i64)).st.sl.pair
                                                                                                          (((Go.Proofs.Ytpahnadbknjepaa.Ex.Ty.int Go.IntKind.i64).pair (Go.Proofs.Ytpahnadbknjepaa.Ex.Ty.int Go.IntKind.i64)).st.sl.pair
                                                                                                            ((Go.Proofs.Ytpahnadbknjepaa.Ex.Ty.int Go.IntKind.i64).pair (Go.Proofs.Ytpahnadbknjepaa.Ex.Ty.int Go.IntKind.i64)))))).st
                                                                                                  l),
                                                                                              (2, Go.Proofs.Ytpahnadbknjepaa.Ex.AV.bool Bool.false)]
                                                                                            { blks := [], c := 0 })
                                                                                        (fun e20 ↦
                                                                                          K 1
                                                                                            [(3, Go.Proofs.Ytpahnadbknjepaa.Ex.AV.int Go.IntKind.i64 i),
                                                                                              (0,
                                                                                                Go.Proofs.Ytpahnadbknjepaa.Ex.AV.sl
                                                                                                  (Go.Proofs.Ytpahnadbknjepaa.Ex.Ty.bool.pair
                                                                                                      (((Go.Proofs.Ytpahnadbknjepaa.Ex.Ty.int Go.IntKind.i64).pair (Go.Proofs.Ytpahnadbknjepaa.Ex.Ty.int Go.IntKind.i64)).st.sl.pair
                                                                                                        (((Go.Proofs.Ytpahnadbknjepaa.Ex.Ty.int Go.IntKind.i64).pair (Go.Proofs.Ytpahnadbknjepaa.Ex.Ty.int Go.IntKind.i64)).st.sl.pair
                                                                                                          (((Go.Proofs.Ytpahnadbknjepaa.Ex.Ty.int Go.IntKind.i64).pair (Go.Proofs.Ytpahnadbknjepaa.Ex.Ty.int Go.IntKind.i64)).st.sl.pair
                                                                                                            ((Go.Proofs.Ytpahnadbknjepaa.Ex.Ty.int Go.IntKind.i64).pair (Go.Proofs.Ytpahnadbknjepaa.Ex.Ty.int Go.IntKind.i64)))))).st
                                                                                                  l),
                                                                                              (2, Go.Proofs.Ytpahnadbknjepaa.Ex.AV.bool Bool.false)]
                                                                                            { blks := [], c := 0 })
                                                                                        (Go.Proofs.Ytpahnadbknjepaa.Ex.vL8i i l ([] ++ d17.snd.fst ++ d18.snd.snd.fst ++ d19.snd.snd.snd.fst) ())
                                                                                    else Option.none
                                                                                  else Option.none
                                                                              else Option.none
                                                                            else Option.none
                                                                        else Option.none
                                                                      else Option.none
                                                                  else Option.none
                                                          else Option.none
                                                  else Option.none
                                          else Option.none
                                    else Option.none
                              else Option.none
                        else Option.none
                  else Option.none
            else Option.none
        else Option.none
    else Option.none
  else
    K 2
      [(3, Go.Proofs.Ytpahnadbknjepaa.Ex.AV.int Go.IntKind.i64 i),
        (0,
          Go.Proofs.Ytpahnadbknjepaa.Ex.AV.sl
            (Go.Proofs.Ytpahnadbknjepaa.Ex.Ty.bool.pair
                (((Go.Proofs.Ytpahnadbknjepaa.Ex.Ty.int Go.IntKind.i64).pair (Go.Proofs.Ytpahnadbknjepaa.Ex.Ty.int Go.IntKind.i64)).st.sl.pair
                  (((Go.Proofs.Ytpahnadbknjepaa.Ex.Ty.int Go.IntKind.i64).pair (Go.Proofs.Ytpahnadbknjepaa.Ex.Ty.int Go.IntKind.i64)).st.sl.pair
                    (((Go.Proofs.Ytpahnadbknjepaa.Ex.Ty.int Go.IntKind.i64).pair (Go.Proofs.Ytpahnadbknjepaa.Ex.Ty.int Go.IntKind.i64)).st.sl.pair ((Go.Proofs.Ytpahnadbknjepaa.Ex.Ty.int Go.IntKind.i64).pair (Go.Proofs.Ytpahnadbknjepaa.Ex.Ty.int Go.IntKind.i64)))))).st
            l),
        (2, Go.Proofs.Ytpahnadbknjepaa.Ex.AV.bool Bool.false)]
      { blks := [], c := 0 } := by kernel_rfl
end Go.Proofs.Ytpahnadbknjepaa.Ex

/- Loops O: what they come to. -/
namespace Go.Proofs.Ytpahnadbknjepaa.Ex
open Go.Proofs Go.Proofs.Ytpahnadbknjepaa
set_option maxRecDepth 100000
set_option linter.unusedVariables false
set_option linter.unusedSimpArgs false
def stepL8o  (l : List E) (i : Nat)  (d : E) : (Unit) ⊕ (Nat) := if fitE ((l[0]?).getD zE) d then .inl () else .inr i
def allL8o  (l0 : List E) : Bool := l0.all fun d => lenE d
def outL8o  (l : List E) : (Nat) → Out3 := fun e => ((1, TL8o (e : Nat) l), HL8o)
def vL8o  (l : List E) (s : Unit) : (Unit) ⊕ (Nat) := runS (fun i s d => stepL8o  l i  d) 0 l s
theorem runL8o  (l : List E) (hl : l.length ≤ 4611686018427387904) (ha : allL8o  l = true) (s : Unit)  :
    go (iterM 0 keepL8o (FL8o 0) (l.length + 1) (TL8o 0 l)) (HL8o ) = some ((vL8o  l s).elim (fun s => (((2, TL8o (l.length : Nat) l), HL8o ) : Out3)) (outL8o  l)) := by
  have key := range_loop (keep := keepL8o) (F := FL8o 0) (fun i s => True) l (fun i s => TL8o (i : Nat) l) (fun i s => HL8o ) (fun i s d => (stepL8o  l i  d).elim .inl (fun e =>   .inr (outL8o  l e))) (fun s => (((2, TL8o (l.length : Nat) l), HL8o ) : Out3)) ?_ ?_ ?_ ?_ ?_ l 0 s rfl (Nat.zero_le _) trivial
  · rw [runL_elim] at key
    exact key
  · intro i s d hi hd hm hI K
    have ha := List.all_eq_true.1 ha d hm
    rw [rnd8o]
    have e1 : decide ((i : Int) < ((l.length : Nat) : Int)) = true := decide_eq_true (by omega)
    have e2 : decide (0 ≤ (i : Int)) = true := decide_eq_true (by omega)
    rw [e1, e2, Int.toNat_natCast, wrap_up hi hl]
    obtain ⟨f, hf⟩ : ∃ f, l[0]? = some f := ⟨l[0], List.getElem?_eq_getElem (by omega)⟩
    have hf' : l[Int.toNat 0]? = some f := hf
    have es : stepL8o l i d = if fitE f d then .inl () else .inr i := by unfold stepL8o; rw [hf]; rfl
    rw [es, hd, hf']
    simp only [optC, cond_true]
    simp only [lenE, Bool.and_eq_true, decide_eq_true_eq] at ha
    obtain ⟨⟨l1, l2⟩, l3⟩ := ha
    have w1 : IntKind.i64.wrap ((d.2.1.length : Int) + (d.2.2.1.length : Int)) = ((d.2.1.length + d.2.2.1.length : Nat) : Int) := by rw [wr (by omega)]; omega
    have w2 : IntKind.i64.wrap (((d.2.1.length + d.2.2.1.length : Nat) : Int) + (d.2.2.2.1.length : Int)) = ((d.2.1.length + d.2.2.1.length + d.2.2.2.1.length : Nat) : Int) := by rw [wr (by omega)]; omega
    rw [w1, w2]
    have ev8 : ∀ r : List I, vL8i (i : Int) l r () = runS (fun i (_ : Unit) d => if isB d then (.inl () : Unit ⊕ Nat) else .inr i) 0 r () := fun r => rfl
    simp only [ev8, elim_all (fun _ d => isB d), allIx_all, bne_nat, List.nil_append, List.length_append, List.length_nil, Nat.zero_add]
    rw [show fitE f d = (!decide (d.2.1.length + d.2.2.1.length + d.2.2.2.1.length > 120) && !decide (d.2.2.2.2.1 < 0) && !decide (d.2.2.2.2.2 < 0) && !decide (d.2.2.2.2.1 ≥ 2147483648) && !decide (d.2.2.2.2.2 ≥ 2147483648) && d.2.1.length == f.2.1.length && d.2.2.1.length == f.2.2.1.length && d.2.2.2.1.length == f.2.2.2.1.length && (d.2.1 ++ d.2.2.1 ++ d.2.2.2.1).all isB) from rfl]
    by_cases c1 : d.2.1.length + d.2.2.1.length + d.2.2.2.1.length > 120
    · rw [show decide (((d.2.1.length + d.2.2.1.length + d.2.2.2.1.length : Nat) : Int) > 120) = true from decide_eq_true (by omega), show decide (d.2.1.length + d.2.2.1.length + d.2.2.2.1.length > 120) = true from decide_eq_true c1]
      rfl
    rw [show decide (((d.2.1.length + d.2.2.1.length + d.2.2.2.1.length : Nat) : Int) > 120) = false from decide_eq_false (by omega), show decide (d.2.1.length + d.2.2.1.length + d.2.2.2.1.length > 120) = false from decide_eq_false c1]
    rw [show decide ((d.2.1.length + 1) * 16 ≤ lim) = true from decide_eq_true (by unfold lim; omega), show decide ((d.2.1.length + d.2.2.1.length + 1) * 16 ≤ lim) = true from decide_eq_true (by unfold lim; omega), show decide ((d.2.1.length + d.2.2.1.length + d.2.2.2.1.length + 1) * 16 ≤ lim) = true from decide_eq_true (by unfold lim; omega), show decide (((d.2.1.length + d.2.2.1.length + d.2.2.2.1.length : Nat) : Int) ≤ 4611686018427387904) = true from decide_eq_true (by omega)]
    generalize decide (d.2.2.2.2.1 < 0) = b2
    generalize decide (d.2.2.2.2.2 < 0) = b3
    generalize decide (d.2.2.2.2.1 ≥ 2147483648) = b4
    generalize decide (d.2.2.2.2.2 ≥ 2147483648) = b5
    generalize (d.2.1.length == f.2.1.length) = b6
    generalize (d.2.2.1.length == f.2.2.1.length) = b7
    generalize (d.2.2.2.1.length == f.2.2.2.1.length) = b8
    generalize (d.2.1 ++ d.2.2.1 ++ d.2.2.2.1).all isB = b9
    cases b2
    · cases b3
      · cases b4
        · cases b5
          · cases b6
            · rfl
            · cases b7
              · rfl
              · cases b8
                · rfl
                · cases b9 <;> rfl
          · rfl
        · rfl
      · rfl
    · rfl
  · intros; trivial
  · intro i s d x e; revert e; cases stepL8o  l i  d with | inl a => intro e; cases e | inr a => intro e; cases e; exact nofun
  · intro s K
    rw [rnd8o]
    have e1 : decide (((l.length : Nat) : Int) < ((l.length : Nat) : Int)) = false := decide_eq_false (by omega)
    rw [e1]
    rfl
  · intro s; exact nofun
def dT8o : Tm → Option (Int × List E)
  | [(3, .int .i64 i), (0, .sl (.st (.pair .bool (.pair (.sl (.st (.pair (.int .i64) (.int .i64)))) (.pair (.sl (.st (.pair (.int .i64) (.int .i64)))) (.pair (.sl (.st (.pair (.int .i64) (.int .i64)))) (.pair (.int .i64) (.int .i64))))))) l), (2, .bool false)] => some (i, l)
  | _ => none
def dH8o : Hp → Option (Unit)
  | ⟨[], 0⟩ => some ()
  | _ => none
theorem dT8o_some {T : Tm} {t : Int × List E} (e : dT8o T = some t) : T = TL8o (t.1) (t.2) := by
  unfold dT8o at e
  split at e
  · cases e; rfl
  · cases e
theorem dH8o_some {h : Hp} {u : Unit} (e : dH8o h = some u) : h = HL8o  := by
  unfold dH8o at e
  split at e
  · cases e; rfl
  · cases e
def qL8o (base : Nat) (T : Tm) : Prog (Nat × Tm) := match base with
  | 0 => match dT8o T with
    | some t => loopB dH8o (fun u => ((t.1) == 0) && decide (((t.2).length : Int) ≤ 4611686018427387904) && allL8o  (t.2)) (fun u => vL8o  (t.2) ()) (fun u s => (((2, TL8o ((t.2).length : Nat) (t.2)), HL8o ) : Out3)) (fun u e => outL8o  (t.2) e)
    | none => .fail
  | _ + 1 => .fail
theorem qgo8o (base : Nat) (T : Tm) (h : Hp) (r : Nat × Tm) (h' : Hp) (e : go (qL8o base T) h = some (r, h')) : ∃ m, go (iterM base keepL8o (FL8o base) m T) h = some (r, h') := by
  unfold qL8o at e
  split at e
  · split at e
    · rename_i t ht
      obtain ⟨u, hu, c, e2⟩ := loopB_go e
      rw [dT8o_some ht, dH8o_some hu]
      simp only [Bool.and_eq_true, beq_iff_eq, decide_eq_true_eq] at c
      skip
      obtain ⟨c, ca⟩ := c
      obtain ⟨c1, c3⟩ := c
      refine ⟨(t.2).length + 1, ?_⟩
      rw [c1]
      rw [e2]
      have := runL8o  (t.2) (by omega) ca () 
      revert this; unfold Sum.elim; cases vL8o  (t.2) () <;> exact id
    · cases e
  · cases e
noncomputable def lpL8o (base : Nat) (T : Tm) : Prog (Nat × Tm) := .norm base keepL8o T (qL8o base)
theorem sndL8o : SoundC Try.prog 138 (.loop (bodyX 8 0)) lpL8o :=
  loop_sound (cx := cxN) (cal := evF cxL keeps 3) (kp := keeps 8) (tabOk_of tab_ok) (cmpsOk_of tab_ok cmps_ok) calL mixed (hl8) qgo8o
end Go.Proofs.Ytpahnadbknjepaa.Ex

/- Contracts, level 2. -/
namespace Go.Proofs.Ytpahnadbknjepaa.Ex
open Go.Proofs Go.Proofs.Ytpahnadbknjepaa
set_option maxRecDepth 100000
set_option linter.unusedSimpArgs false
set_option linter.unusedVariables false
def okL (a : List I) : Bool := decide ((a.length : Int) ≤ 4611686018427387904)
def belowB (a b : List I) : Bool := allIx (fun i d => leqB d (atV b (i : Nat))) 0 a
def eqRows (a b : List I) : Bool := a.length == b.length && allIx (fun i d => eqI d ((b[i]?).getD nn)) 0 a
def okLn (a : List Int) : Bool := decide ((a.length : Int) ≤ 4611686018427387904)
def hasE (w : E) (l : List Int) (n : Int) : Bool := w.1 && l.length == w.2.1.length && andV w.2.2.2.2.1 n == w.2.2.2.2.1 && andV n w.2.2.2.2.2 == n && allIx (fun i d => hasB ((w.2.1[i]?).getD nn) d) 0 l
def okLE (l : List E) : Bool := decide ((l.length : Int) ≤ 4611686018427387904) && l.all lenE
def sp2 : Nat → Option (List AV → Prog AV)
  | 46 => some (specP true M46)
  | 55 => some (specP true M55)
  | 45 => some (specP true M45)
  | 37 => some (specP true M37)
  | 38 => some (specP true M38)
  | 31 => some (specP true M31)
  | 36 => some (specP true M36)
  | 43 => some (specP true M43)
  | 44 => some (specP true M44)
  | 50 => some (specP true M50)
  | 54 => some (specP true M54)
  | 20 => some (specP true M20)
  | 39 => some (specP true M39)
  | 26 => some (specP true M26)
  | 52 => some (specP true M52)
  | 51 => some (specP true M51)
  | 40 => some (specP true M40)
  | 29 => some (specP true M29)
  | _ => none
noncomputable def lp2 : Nat → Nat → Option (Nat → Tm → Prog (Nat × Tm))
  | 28, 0 => some lpL28
  | 35, 0 => some lpL35
  | 30, 0 => some lpL30
  | 22, 0 => some lpL22
  | 15, 0 => some lpL15
  | 8, 0 => some lpL8o
  | _, _ => none
noncomputable def cx2 : Ctx := { tab := tab, spec := sp2, inl := inl, lps := lp2, fuel := 10 }
theorem hsp2 : ∀ g p, cx2.spec g = some p → SoundA Try.prog g p := by
  intro g p h
  change sp2 g = some p at h
  unfold sp2 at h
  split at h
  · cases h; exact snd46
  · cases h; exact snd55
  · cases h; exact snd45
  · cases h; exact snd37
  · cases h; exact snd38
  · cases h; exact snd31
  · cases h; exact snd36
  · cases h; exact snd43
  · cases h; exact snd44
  · cases h; exact snd50
  · cases h; exact snd54
  · cases h; exact snd20
  · cases h; exact snd39
  · cases h; exact snd26
  · cases h; exact snd52
  · cases h; exact snd51
  · cases h; exact snd40
  · cases h; exact snd29
  · cases h
theorem in2 : InlOk Try.prog cx2 := ⟨inl_ok, fun g fn c hg hb q hq p hp => by
  change lp2 g q.1 = some p at hp
  change inl g = some fn at hg
  generalize hq1 : q.1 = b at hp
  unfold lp2 at hp
  split at hp
  · cases hp; exact lps_case (inl := inl) hg hb hq hq1 (by kernel_rfl) (by kernel_rfl) sndL28
  · cases hp; exact lps_case (inl := inl) hg hb hq hq1 (by kernel_rfl) (by kernel_rfl) sndL35
  · cases hp; exact lps_case (inl := inl) hg hb hq hq1 (by kernel_rfl) (by kernel_rfl) sndL30
  · cases hp; exact lps_case (inl := inl) hg hb hq hq1 (by kernel_rfl) (by kernel_rfl) sndL22
  · cases hp; exact lps_case (inl := inl) hg hb hq hq1 (by kernel_rfl) (by kernel_rfl) sndL15
  · cases hp; exact lps_case (inl := inl) hg hb hq hq1 (by kernel_rfl) (by kernel_rfl) sndL8o
  · cases hp⟩
theorem cal2 (g : Nat) : SoundA Try.prog g (evF cx2 keeps 3 g) := evF_sound (tabOk_of tab_ok) (cmpsOk_of tab_ok cmps_ok) mixed in2 hsp2 keeps 3 g
end Go.Proofs.Ytpahnadbknjepaa.Ex

/- What is run, level 2. -/
namespace Go.Proofs.Ytpahnadbknjepaa.Ex
open Go.Proofs Go.Proofs.Ytpahnadbknjepaa
set_option maxRecDepth 100000
theorem raw28 (a : List I) (b : List I) : ev cx2 28 [aLI a, aLI b] =
  bif 0 == 0 && (↑a.length : Int) == (↑a.length : Int) && Decidable.decide ((↑a.length : Int) ≤ 4611686018427387904) then
    Sum.elim (fun e2 ↦ Option.some (Go.Proofs.Ytpahnadbknjepaa.Ex.AV.bool Bool.true, { blks := [], c := 0 })) (fun e2 ↦ Option.some (Go.Proofs.Ytpahnadbknjepaa.Ex.AV.bool Bool.false, { blks := [], c := 0 })) (Go.Proofs.Ytpahnadbknjepaa.Ex.vL28 b a ())
  else Option.none := by kernel_rfl
theorem raw35 (a : List I) (b : List I) : ev cx2 35 [aLI a, aLI b] =
  bif 0 == 0 && Decidable.decide ((↑a.length : Int) ≤ 4611686018427387904) then
    Sum.elim (fun e2 ↦ Option.some (Go.Proofs.Ytpahnadbknjepaa.Ex.AV.bool Bool.true, { blks := [], c := 0 })) (fun e2 ↦ Option.some (Go.Proofs.Ytpahnadbknjepaa.Ex.AV.bool Bool.false, { blks := [], c := 0 })) (Go.Proofs.Ytpahnadbknjepaa.Ex.vL35 b a ())
  else Option.none := by kernel_rfl
theorem raw30 (a : List I) (b : List I) : ev cx2 30 [aLI a, aLI b] =
  bif (↑a.length : Int) != (↑b.length : Int) then Option.some (Go.Proofs.Ytpahnadbknjepaa.Ex.AV.bool Bool.false, { blks := [], c := 0 })
  else
    bif 0 == 0 && (↑a.length : Int) == (↑a.length : Int) && Decidable.decide ((↑a.length : Int) ≤ 4611686018427387904) && Go.Proofs.Ytpahnadbknjepaa.Ex.allL30 b a then
      Sum.elim (fun e2 ↦ Option.some (Go.Proofs.Ytpahnadbknjepaa.Ex.AV.bool Bool.true, { blks := [], c := 0 })) (fun e2 ↦ Option.some (Go.Proofs.Ytpahnadbknjepaa.Ex.AV.bool Bool.false, { blks := [], c := 0 })) (Go.Proofs.Ytpahnadbknjepaa.Ex.vL30 b a ())
    else Option.none := by kernel_rfl
theorem raw22 (a : List I) (b : List I) : ev cx2 22 [aLI a, aLI b] =
  bif (↑a.length : Int) != (↑b.length : Int) then Option.some (Go.Proofs.Ytpahnadbknjepaa.Ex.AV.bool Bool.false, { blks := [], c := 0 })
  else
    bif 0 == 0 && Decidable.decide ((↑a.length : Int) ≤ 4611686018427387904) && Go.Proofs.Ytpahnadbknjepaa.Ex.allL22 b a then
      Sum.elim (fun e2 ↦ Option.some (Go.Proofs.Ytpahnadbknjepaa.Ex.AV.bool Bool.true, { blks := [], c := 0 })) (fun e2 ↦ Option.some (Go.Proofs.Ytpahnadbknjepaa.Ex.AV.bool Bool.false, { blks := [], c := 0 })) (Go.Proofs.Ytpahnadbknjepaa.Ex.vL22 b a ())
    else Option.none := by kernel_rfl
theorem raw15 (w : E) (l : List Int) (n : Int) : ev cx2 15 [aE w, aLi l, aN n] =
  bif !w.fst then Option.some (Go.Proofs.Ytpahnadbknjepaa.Ex.AV.bool Bool.false, { blks := [], c := 0 })
  else
    bif (↑l.length : Int) != (↑w.snd.fst.length : Int) then Option.some (Go.Proofs.Ytpahnadbknjepaa.Ex.AV.bool Bool.false, { blks := [], c := 0 })
    else
      bif !Go.Proofs.Ytpahnadbknjepaa.Ex.andV w.snd.snd.snd.snd.fst n == w.snd.snd.snd.snd.fst then Option.some (Go.Proofs.Ytpahnadbknjepaa.Ex.AV.bool Bool.false, { blks := [], c := 0 })
      else
        bif !Go.Proofs.Ytpahnadbknjepaa.Ex.andV n w.snd.snd.snd.snd.snd == n then Option.some (Go.Proofs.Ytpahnadbknjepaa.Ex.AV.bool Bool.false, { blks := [], c := 0 })
        else
          bif 0 == 0 && (↑l.length : Int) == (↑l.length : Int) && Decidable.decide ((↑l.length : Int) ≤ 4611686018427387904) && Go.Proofs.Ytpahnadbknjepaa.Ex.allL15 w l then
            Sum.elim (fun e3 ↦ Option.some (Go.Proofs.Ytpahnadbknjepaa.Ex.AV.bool Bool.true, { blks := [], c := 0 })) (fun e3 ↦ Option.some (Go.Proofs.Ytpahnadbknjepaa.Ex.AV.bool Bool.false, { blks := [], c := 0 })) (Go.Proofs.Ytpahnadbknjepaa.Ex.vL15 w l ())
          else Option.none := by kernel_rfl
theorem raw8 (l : List E) : ev cx2 8 [aLE l] =
  bif 0 == 0 && Decidable.decide ((↑l.length : Int) ≤ 4611686018427387904) && Go.Proofs.Ytpahnadbknjepaa.Ex.allL8o l then
    Sum.elim (fun e1 ↦ Option.some (Go.Proofs.Ytpahnadbknjepaa.Ex.AV.bool Bool.true, { blks := [], c := 0 })) (fun e1 ↦ Option.some (Go.Proofs.Ytpahnadbknjepaa.Ex.AV.bool Bool.false, { blks := [], c := 0 })) (Go.Proofs.Ytpahnadbknjepaa.Ex.vL8o l ())
  else Option.none := by kernel_rfl
end Go.Proofs.Ytpahnadbknjepaa.Ex

/- Contracts, level 2. -/
namespace Go.Proofs.Ytpahnadbknjepaa.Ex
open Go.Proofs Go.Proofs.Ytpahnadbknjepaa
set_option maxRecDepth 100000
set_option linter.unusedSimpArgs false
set_option linter.unusedVariables false
theorem ok28 (a : List I) (b : List I) (hp : okL a = true) : ev cx2 28 [aLI a, aLI b] = outV (.bool (belowB a b)) := by
  rw [raw28]
  have e0 : vL28 b a () = runS (fun i (_ : Unit) d => if (fun (i : Nat) (d : I) => leqB d (atV b (i : Nat))) i d then (.inl () : Unit ⊕ Nat) else .inr i) 0 a () := rfl
  rw [e0, elim_all (fun (i : Nat) (d : I) => leqB d (atV b (i : Nat)))]
  unfold okL at hp; rw [hp]; simp only [beq_self_eq_true, Bool.and_true, cond_true]; unfold belowB; cases allIx (fun (i : Nat) (d : I) => leqB d (atV b (i : Nat))) 0 a <;> rfl
theorem ok35 (a : List I) (b : List I) (hp : okL a = true) : ev cx2 35 [aLI a, aLI b] = outV (.bool (belowB a b)) := by
  rw [raw35]
  have e0 : vL35 b a () = runS (fun i (_ : Unit) d => if (fun (i : Nat) (d : I) => leqB d (atV b (i : Nat))) i d then (.inl () : Unit ⊕ Nat) else .inr i) 0 a () := rfl
  rw [e0, elim_all (fun (i : Nat) (d : I) => leqB d (atV b (i : Nat)))]
  unfold okL at hp; rw [hp]; simp only [beq_self_eq_true, Bool.and_true, cond_true]; unfold belowB; cases allIx (fun (i : Nat) (d : I) => leqB d (atV b (i : Nat))) 0 a <;> rfl
theorem ok30 (a : List I) (b : List I) (hp : okL a = true) : ev cx2 30 [aLI a, aLI b] = outV (.bool (eqRows a b)) := by
  rw [raw30]
  have e0 : vL30 b a () = runS (fun i (_ : Unit) d => if (fun (i : Nat) (d : I) => eqI d ((b[i]?).getD nn)) i d then (.inl () : Unit ⊕ Nat) else .inr i) 0 a () := rfl
  rw [e0, elim_all (fun (i : Nat) (d : I) => eqI d ((b[i]?).getD nn))]
  unfold okL at hp; unfold eqRows; rw [hp, bne_nat]
  by_cases h : a.length = b.length
  · have ha : allL30 b a = true := by unfold allL30; rw [List.all_eq_true]; intro d _; exact nb_iff.2 h.symm
    rw [ha, show (a.length == b.length) = true by simp [h]]; simp only [beq_self_eq_true, Bool.and_true, cond_true, Bool.not_true, cond_false]; cases allIx (fun (i : Nat) (d : I) => eqI d ((b[i]?).getD nn)) 0 a <;> rfl
  · rw [show (a.length == b.length) = false by simp [h]]; rfl
theorem ok22 (a : List I) (b : List I) (hp : okL a = true) : ev cx2 22 [aLI a, aLI b] = outV (.bool (eqRows a b)) := by
  rw [raw22]
  have e0 : vL22 b a () = runS (fun i (_ : Unit) d => if (fun (i : Nat) (d : I) => eqI d ((b[i]?).getD nn)) i d then (.inl () : Unit ⊕ Nat) else .inr i) 0 a () := rfl
  rw [e0, elim_all (fun (i : Nat) (d : I) => eqI d ((b[i]?).getD nn))]
  unfold okL at hp; unfold eqRows; rw [hp, bne_nat]
  by_cases h : a.length = b.length
  · have ha : allL22 b a = true := by unfold allL22; rw [List.all_eq_true]; intro d _; exact nb_iff.2 h.symm
    rw [ha, show (a.length == b.length) = true by simp [h]]; simp only [beq_self_eq_true, Bool.and_true, cond_true, Bool.not_true, cond_false]; cases allIx (fun (i : Nat) (d : I) => eqI d ((b[i]?).getD nn)) 0 a <;> rfl
  · rw [show (a.length == b.length) = false by simp [h]]; rfl
theorem ok15 (w : E) (l : List Int) (n : Int) (hp : okLn l = true) : ev cx2 15 [aE w, aLi l, aN n] = outV (.bool (hasE w l n)) := by
  rw [raw15]
  have e0 : vL15 w l () = runS (fun i (_ : Unit) d => if (fun (i : Nat) (d : Int) => hasB ((w.2.1[i]?).getD nn) d) i d then (.inl () : Unit ⊕ Nat) else .inr i) 0 l () := rfl
  rw [e0, elim_all (fun (i : Nat) (d : Int) => hasB ((w.2.1[i]?).getD nn) d)]
  unfold okLn at hp; rw [hp, bne_nat]; rw [show hasE w l n = (w.1 && l.length == w.2.1.length && andV w.2.2.2.2.1 n == w.2.2.2.2.1 && andV n w.2.2.2.2.2 == n && allIx (fun (i : Nat) (d : Int) => hasB ((w.2.1[i]?).getD nn) d) 0 l) from rfl]
  cases w.1
  · rfl
  by_cases h : l.length = w.2.1.length
  · have ha : allL15 w l = true := by unfold allL15; rw [List.all_eq_true]; intro d _; exact nb_iff.2 h.symm
    rw [ha, show (l.length == w.2.1.length) = true by simp [h]]
    cases (andV w.2.2.2.2.1 n == w.2.2.2.2.1)
    · rfl
    cases (andV n w.2.2.2.2.2 == n)
    · rfl
    simp only [beq_self_eq_true, Bool.and_true, cond_true, Bool.not_true, cond_false]; cases allIx (fun (i : Nat) (d : Int) => hasB ((w.2.1[i]?).getD nn) d) 0 l <;> rfl
  · rw [show (l.length == w.2.1.length) = false by simp [h]]; rfl
theorem ok8 (l : List E) (hp : okLE l = true) : ev cx2 8 [aLE l] = outV (.bool (fitsB l)) := by
  rw [raw8]
  have e0 : vL8o l () = runS (fun i (_ : Unit) d => if (fun (_ : Nat) (d : E) => fitE ((l[0]?).getD zE) d) i d then (.inl () : Unit ⊕ Nat) else .inr i) 0 l () := rfl
  rw [e0, elim_all (fun (_ : Nat) (d : E) => fitE ((l[0]?).getD zE) d)]
  simp only [okLE, Bool.and_eq_true] at hp; rw [hp.1, show allL8o l = true from hp.2, allIx_all]; simp only [beq_self_eq_true, Bool.and_true, cond_true]; unfold fitsB; cases l.all (fitE ((l[0]?).getD zE)) <;> rfl
def M28 : List AV → Option (Bool × AV × List Blk)
  | [v_a, v_b] => (gLI v_a).bind fun a => (gLI v_b).bind fun b => some (okL a, .bool (belowB a b), [])
  | _ => none
theorem hM28 (args : List AV) (v : AV) (bs : List Blk) (h : M28 args = some (true, v, bs)) : AV.idsL args = [] ∧ (true = true ∨ (plainV v = true ∧ bs.all plainB = true)) ∧ ∃ fb, ex ((evF cx2 keeps 3 28 args).bind (finP true)) false ⟨[], 0⟩ ⟨[], []⟩ = some (v, ⟨enumB 0 bs, bs.length⟩, fb) := by
  unfold M28 at h
  split at h
  · obtain ⟨a, h_a, h0⟩ := Option.bind_eq_some_iff.1 h
    obtain ⟨b, h_b, h1⟩ := Option.bind_eq_some_iff.1 h0
    simp only [Option.some.injEq, Prod.mk.injEq] at h1
    obtain ⟨hp, rfl, rfl⟩ := h1
    have e_a := gLI_some h_a
    have e_b := gLI_some h_b
    subst e_a e_b
    exact ⟨rfl, .inl rfl, ev_ex (ok28 a b hp)⟩
  · cases h
theorem snd28 : SoundA Try.prog 28 (specP true M28) := soundA_spec (fz := true) (cal2 28) hM28
def M35 : List AV → Option (Bool × AV × List Blk)
  | [v_a, v_b] => (gLI v_a).bind fun a => (gLI v_b).bind fun b => some (okL a, .bool (belowB a b), [])
  | _ => none
theorem hM35 (args : List AV) (v : AV) (bs : List Blk) (h : M35 args = some (true, v, bs)) : AV.idsL args = [] ∧ (true = true ∨ (plainV v = true ∧ bs.all plainB = true)) ∧ ∃ fb, ex ((evF cx2 keeps 3 35 args).bind (finP true)) false ⟨[], 0⟩ ⟨[], []⟩ = some (v, ⟨enumB 0 bs, bs.length⟩, fb) := by
  unfold M35 at h
  split at h
  · obtain ⟨a, h_a, h0⟩ := Option.bind_eq_some_iff.1 h
    obtain ⟨b, h_b, h1⟩ := Option.bind_eq_some_iff.1 h0
    simp only [Option.some.injEq, Prod.mk.injEq] at h1
    obtain ⟨hp, rfl, rfl⟩ := h1
    have e_a := gLI_some h_a
    have e_b := gLI_some h_b
    subst e_a e_b
    exact ⟨rfl, .inl rfl, ev_ex (ok35 a b hp)⟩
  · cases h
theorem snd35 : SoundA Try.prog 35 (specP true M35) := soundA_spec (fz := true) (cal2 35) hM35
def M30 : List AV → Option (Bool × AV × List Blk)
  | [v_a, v_b] => (gLI v_a).bind fun a => (gLI v_b).bind fun b => some (okL a, .bool (eqRows a b), [])
  | _ => none
theorem hM30 (args : List AV) (v : AV) (bs : List Blk) (h : M30 args = some (true, v, bs)) : AV.idsL args = [] ∧ (true = true ∨ (plainV v = true ∧ bs.all plainB = true)) ∧ ∃ fb, ex ((evF cx2 keeps 3 30 args).bind (finP true)) false ⟨[], 0⟩ ⟨[], []⟩ = some (v, ⟨enumB 0 bs, bs.length⟩, fb) := by
  unfold M30 at h
  split at h
  · obtain ⟨a, h_a, h0⟩ := Option.bind_eq_some_iff.1 h
    obtain ⟨b, h_b, h1⟩ := Option.bind_eq_some_iff.1 h0
    simp only [Option.some.injEq, Prod.mk.injEq] at h1
    obtain ⟨hp, rfl, rfl⟩ := h1
    have e_a := gLI_some h_a
    have e_b := gLI_some h_b
    subst e_a e_b
    exact ⟨rfl, .inl rfl, ev_ex (ok30 a b hp)⟩
  · cases h
theorem snd30 : SoundA Try.prog 30 (specP true M30) := soundA_spec (fz := true) (cal2 30) hM30
def M22 : List AV → Option (Bool × AV × List Blk)
  | [v_a, v_b] => (gLI v_a).bind fun a => (gLI v_b).bind fun b => some (okL a, .bool (eqRows a b), [])
  | _ => none
theorem hM22 (args : List AV) (v : AV) (bs : List Blk) (h : M22 args = some (true, v, bs)) : AV.idsL args = [] ∧ (true = true ∨ (plainV v = true ∧ bs.all plainB = true)) ∧ ∃ fb, ex ((evF cx2 keeps 3 22 args).bind (finP true)) false ⟨[], 0⟩ ⟨[], []⟩ = some (v, ⟨enumB 0 bs, bs.length⟩, fb) := by
  unfold M22 at h
  split at h
  · obtain ⟨a, h_a, h0⟩ := Option.bind_eq_some_iff.1 h
    obtain ⟨b, h_b, h1⟩ := Option.bind_eq_some_iff.1 h0
    simp only [Option.some.injEq, Prod.mk.injEq] at h1
    obtain ⟨hp, rfl, rfl⟩ := h1
    have e_a := gLI_some h_a
    have e_b := gLI_some h_b
    subst e_a e_b
    exact ⟨rfl, .inl rfl, ev_ex (ok22 a b hp)⟩
  · cases h
theorem snd22 : SoundA Try.prog 22 (specP true M22) := soundA_spec (fz := true) (cal2 22) hM22
def M15 : List AV → Option (Bool × AV × List Blk)
  | [v_w, v_l, v_n] => (gE v_w).bind fun w => (gLi v_l).bind fun l => (gN v_n).bind fun n => some (okLn l, .bool (hasE w l n), [])
  | _ => none
theorem hM15 (args : List AV) (v : AV) (bs : List Blk) (h : M15 args = some (true, v, bs)) : AV.idsL args = [] ∧ (true = true ∨ (plainV v = true ∧ bs.all plainB = true)) ∧ ∃ fb, ex ((evF cx2 keeps 3 15 args).bind (finP true)) false ⟨[], 0⟩ ⟨[], []⟩ = some (v, ⟨enumB 0 bs, bs.length⟩, fb) := by
  unfold M15 at h
  split at h
  · obtain ⟨w, h_w, h0⟩ := Option.bind_eq_some_iff.1 h
    obtain ⟨l, h_l, h1⟩ := Option.bind_eq_some_iff.1 h0
    obtain ⟨n, h_n, h2⟩ := Option.bind_eq_some_iff.1 h1
    simp only [Option.some.injEq, Prod.mk.injEq] at h2
    obtain ⟨hp, rfl, rfl⟩ := h2
    have e_w := gE_some h_w
    have e_l := gLi_some h_l
    have e_n := gN_some h_n
    subst e_w e_l e_n
    exact ⟨rfl, .inl rfl, ev_ex (ok15 w l n hp)⟩
  · cases h
theorem snd15 : SoundA Try.prog 15 (specP true M15) := soundA_spec (fz := true) (cal2 15) hM15
def M8 : List AV → Option (Bool × AV × List Blk)
  | [v_l] => (gLE v_l).bind fun l => some (okLE l, .bool (fitsB l), [])
  | _ => none
theorem hM8 (args : List AV) (v : AV) (bs : List Blk) (h : M8 args = some (true, v, bs)) : AV.idsL args = [] ∧ (true = true ∨ (plainV v = true ∧ bs.all plainB = true)) ∧ ∃ fb, ex ((evF cx2 keeps 3 8 args).bind (finP true)) false ⟨[], 0⟩ ⟨[], []⟩ = some (v, ⟨enumB 0 bs, bs.length⟩, fb) := by
  unfold M8 at h
  split at h
  · obtain ⟨l, h_l, h0⟩ := Option.bind_eq_some_iff.1 h
    simp only [Option.some.injEq, Prod.mk.injEq] at h0
    obtain ⟨hp, rfl, rfl⟩ := h0
    have e_l := gLE_some h_l
    subst e_l
    exact ⟨rfl, .inl rfl, ev_ex (ok8 l hp)⟩
  · cases h
theorem snd8 : SoundA Try.prog 8 (specP true M8) := soundA_spec (fz := true) (cal2 8) hM8
end Go.Proofs.Ytpahnadbknjepaa.Ex

