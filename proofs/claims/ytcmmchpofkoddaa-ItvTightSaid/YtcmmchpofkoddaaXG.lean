/- A part of the proofs of the laws of intervals: XG. -/
import Derived.Test.YtcmmchpofkoddaaXF
/- More of what is asked. -/
namespace Go.Proofs.Ytcmmchpofkoddaa.Ex
def pP : I := (1, 2147483647)
def pM : I := (-2147483648, -1)
def quo1 (x y : I) : I × Bool := if empB (iMeet y pP) then (nn, false) else (iJoin nn (iMeet (div4 x (iMeet y pP)) aa), !leqB (div4 x (iMeet y pP)) aa)
def quoV (x y : I) : I × Bool := if empB (iMeet y pM) then quo1 x y else (iJoin (quo1 x y).1 (iMeet (div4 x (iMeet y pM)) aa), (quo1 x y).2 || !leqB (div4 x (iMeet y pM)) aa)
def rdiv1 (x y : I) : I × Bool := if empB (mSpan y pP) then (nn, false) else (clipV (div4 x (mSpan y pP)).1 (div4 x (mSpan y pP)).2, clipO (div4 x (mSpan y pP)).1 (div4 x (mSpan y pP)).2)
def rdivV (x y : I) : I × Bool := if empB (mSpan y pM) then rdiv1 x y else (rJoin (rdiv1 x y).1 (clipV (div4 x (mSpan y pM)).1 (div4 x (mSpan y pM)).2), (rdiv1 x y).2 || clipO (div4 x (mSpan y pM)).1 (div4 x (mSpan y pM)).2)
def rboth (x y p q : I) : I × I := if empB x || empB y || empB p || empB q then (nn, nn) else (p, q)
def rrefI (r : Int) (x y : I) : I × I :=
  if r = 1 then rboth x y (iSpan x.1 (mn x.2 (y.2 - 1))) (iSpan (mx y.1 (x.1 + 1)) y.2)
  else if r = 2 then rboth x y (iSpan x.1 (mn x.2 y.2)) (iSpan (mx y.1 x.1) y.2)
  else if r = 6 then rboth x y (iSpan (mx x.1 (y.1 + 1)) x.2) (iSpan y.1 (mn y.2 (x.2 - 1)))
  else if r = 5 then rboth x y (iSpan (mx x.1 y.1) x.2) (iSpan y.1 (mn y.2 x.2))
  else if r = 3 then rboth x y (mSpan x y) (mSpan x y)
  else if r = 4 then rboth x y (oth x y) (oth y x)
  else (nn, nn)
theorem iMeet_ne {y p : I} (h : empB (iMeet y p) = false) : iMeet y p = (mx y.1 p.1, mn y.2 p.2) ∧ y.1 ≤ y.2 ∧ p.1 ≤ p.2 ∧ mx y.1 p.1 ≤ mn y.2 p.2 := by
  unfold iMeet at h ⊢
  by_cases a : empB y = true
  · rw [if_pos a] at h; cases h
  rw [if_neg a] at h ⊢
  by_cases b : empB p = true
  · rw [if_pos b] at h; cases h
  rw [if_neg b] at h ⊢
  by_cases c : empB (mx y.1 p.1, mn y.2 p.2) = true
  · rw [if_pos c] at h; cases h
  rw [if_neg c]
  simp only [empB, decide_eq_true_eq] at a b c
  exact ⟨rfl, by omega, by omega, by omega⟩
theorem isB_ne {y : I} (h : isB y = true) (h' : y.1 ≤ y.2) : -2147483648 ≤ y.1 ∧ y.2 ≤ 2147483647 := by
  simp only [isB, fitB, Bool.and_eq_true, Bool.or_eq_true, decide_eq_true_eq, beq_iff_eq] at h; omega
theorem isB_mk {a b : Int} (h1 : -2147483648 ≤ a) (h2 : a ≤ b) (h3 : b ≤ 2147483647) : isB (a, b) = true := by
  simp only [isB, fitB, Bool.and_eq_true, Bool.or_eq_true, decide_eq_true_eq, beq_iff_eq]; omega
theorem meetP_ok {y p : I} (hy : isB y = true) (hp : isB p = true) (h : empB (iMeet y p) = false) : isB (iMeet y p) = true := by
  obtain ⟨e, h1, h2, h3⟩ := iMeet_ne h
  have k1 := isB_ne hy h1
  have k2 := isB_ne hp h2
  rw [e]
  unfold mx mn at *
  refine isB_mk ?_ h3 ?_ <;> (repeat' split) <;> omega
theorem meetP_nz {y : I} (h : empB (iMeet y pP) = false) : noZ (iMeet y pP) = true := by
  obtain ⟨e, h1, h2, h3⟩ := iMeet_ne h
  rw [e]
  simp only [noZ, mx, mn, pP, Bool.and_eq_true, Bool.not_eq_true', beq_eq_false_iff_ne] at *
  constructor <;> (repeat' split) <;> (repeat' split at h3) <;> omega
theorem meetM_nz {y : I} (h : empB (iMeet y pM) = false) : noZ (iMeet y pM) = true := by
  obtain ⟨e, h1, h2, h3⟩ := iMeet_ne h
  rw [e]
  simp only [noZ, mx, mn, pM, Bool.and_eq_true, Bool.not_eq_true', beq_eq_false_iff_ne] at *
  constructor <;> (repeat' split) <;> (repeat' split at h3) <;> omega
theorem mSpan_ne {y p : I} (h : empB (mSpan y p) = false) : mSpan y p = (mx y.1 p.1, mn y.2 p.2) ∧ mx y.1 p.1 ≤ mn y.2 p.2 := by
  unfold mSpan iSpan at h ⊢
  by_cases c : mx y.1 p.1 > mn y.2 p.2
  · rw [if_pos c] at h; cases h
  rw [if_neg c]
  exact ⟨rfl, by omega⟩
theorem mSpan_ok {y p : I} (hy : isB y = true) (hp : isB p = true) (h : empB (mSpan y p) = false) : isB (mSpan y p) = true := by
  obtain ⟨e, h3⟩ := mSpan_ne h
  rw [e]
  have h1 : y.1 ≤ y.2 := by unfold mx mn at h3; (repeat' split at h3) <;> omega
  have h2 : p.1 ≤ p.2 := by unfold mx mn at h3; (repeat' split at h3) <;> omega
  have k1 := isB_ne hy h1
  have k2 := isB_ne hp h2
  unfold mx mn at *
  refine isB_mk ?_ h3 ?_ <;> (repeat' split) <;> omega
theorem mSpanP_nz {y : I} (h : empB (mSpan y pP) = false) : noZ (mSpan y pP) = true := by
  obtain ⟨e, h3⟩ := mSpan_ne h
  rw [e]
  simp only [noZ, mx, mn, pP, Bool.and_eq_true, Bool.not_eq_true', beq_eq_false_iff_ne] at *
  constructor <;> (repeat' split) <;> (repeat' split at h3) <;> omega
theorem mSpanM_nz {y : I} (h : empB (mSpan y pM) = false) : noZ (mSpan y pM) = true := by
  obtain ⟨e, h3⟩ := mSpan_ne h
  rw [e]
  simp only [noZ, mx, mn, pM, Bool.and_eq_true, Bool.not_eq_true', beq_eq_false_iff_ne] at *
  constructor <;> (repeat' split) <;> (repeat' split at h3) <;> omega
end Go.Proofs.Ytcmmchpofkoddaa.Ex

/- Contracts, level 3. -/
namespace Go.Proofs.Ytcmmchpofkoddaa.Ex
open Go.Proofs Go.Proofs.Ytcmmchpofkoddaa
set_option maxRecDepth 100000
set_option linter.unusedSimpArgs false
set_option linter.unusedVariables false
def sp3 : Nat → Option (List AV → Prog AV)
  | 31 => some (specP true M31)
  | 20 => some (specP true M20)
  | 39 => some (specP true M39)
  | 51 => some (specP true M51)
  | 37 => some (specP true M37)
  | 38 => some (specP true M38)
  | 29 => some (specP true M29)
  | 23 => some (specP true M23)
  | 33 => some (specP true M33)
  | 58 => some (specP true M58)
  | 26 => some (specP true M26)
  | 27 => some (specP true M27)
  | 34 => some (specP true M34)
  | 24 => some (specP true M24)
  | 28 => some (specP true M28)
  | 57 => some (specP true M57)
  | 25 => some (specP true M25)
  | 21 => some (specP true M21)
  | 22 => some (specP true M22)
  | 41 => some (specP true M41)
  | 59 => some (specP true M59)
  | 50 => some (specP true M50)
  | 16 => some (specP true M16)
  | 35 => some (specP true M35)
  | 47 => some (specP true M47)
  | 52 => some (specP true M52)
  | 60 => some (specP true M60)
  | 55 => some (specP true M55)
  | 42 => some (specP true M42)
  | 43 => some (specP true M43)
  | 56 => some (specP true M56)
  | 40 => some (specP true M40)
  | 53 => some (specP true M53)
  | _ => none
noncomputable def cx3 : Ctx := { tab := tab, spec := sp3, inl := inl, lps := fun _ _ => none, fuel := 10 }
theorem hsp3 : ∀ g p, cx3.spec g = some p → SoundA Try.prog g p := by
  intro g p h
  change sp3 g = some p at h
  unfold sp3 at h
  split at h
  · cases h; exact snd31
  · cases h; exact snd20
  · cases h; exact snd39
  · cases h; exact snd51
  · cases h; exact snd37
  · cases h; exact snd38
  · cases h; exact snd29
  · cases h; exact snd23
  · cases h; exact snd33
  · cases h; exact snd58
  · cases h; exact snd26
  · cases h; exact snd27
  · cases h; exact snd34
  · cases h; exact snd24
  · cases h; exact snd28
  · cases h; exact snd57
  · cases h; exact snd25
  · cases h; exact snd21
  · cases h; exact snd22
  · cases h; exact snd41
  · cases h; exact snd59
  · cases h; exact snd50
  · cases h; exact snd16
  · cases h; exact snd35
  · cases h; exact snd47
  · cases h; exact snd52
  · cases h; exact snd60
  · cases h; exact snd55
  · cases h; exact snd42
  · cases h; exact snd43
  · cases h; exact snd56
  · cases h; exact snd40
  · cases h; exact snd53
  · cases h
theorem in3 : InlOk Try.prog cx3 := ⟨inl_ok, fun _ _ _ _ _ _ _ _ h => nomatch h⟩
theorem cal3 (g : Nat) : SoundA Try.prog g (evF cx3 keeps 3 g) := evF_sound (tabOk_of tab_ok) (cmpsOk_of tab_ok cmps_ok) mixed in3 hsp3 keeps 3 g
end Go.Proofs.Ytcmmchpofkoddaa.Ex

/- What is run, level 3. -/
namespace Go.Proofs.Ytcmmchpofkoddaa.Ex
open Go.Proofs Go.Proofs.Ytcmmchpofkoddaa
set_option maxRecDepth 100000
theorem raw49 (x : I) (y : I) : ev cx3 49 [aI x, aI y] =
  bif !Go.Proofs.Ytcmmchpofkoddaa.Ex.empB (Go.Proofs.Ytcmmchpofkoddaa.Ex.iMeet y (1, 2147483647)) then
    bif Go.Proofs.Ytcmmchpofkoddaa.Ex.isB x && Go.Proofs.Ytcmmchpofkoddaa.Ex.isB (Go.Proofs.Ytcmmchpofkoddaa.Ex.iMeet y (1, 2147483647)) && Go.Proofs.Ytcmmchpofkoddaa.Ex.noZ (Go.Proofs.Ytcmmchpofkoddaa.Ex.iMeet y (1, 2147483647)) then
      bif !Go.Proofs.Ytcmmchpofkoddaa.Ex.empB (Go.Proofs.Ytcmmchpofkoddaa.Ex.iMeet y (-2147483648, -1)) then
        bif Go.Proofs.Ytcmmchpofkoddaa.Ex.isB x && Go.Proofs.Ytcmmchpofkoddaa.Ex.isB (Go.Proofs.Ytcmmchpofkoddaa.Ex.iMeet y (-2147483648, -1)) && Go.Proofs.Ytcmmchpofkoddaa.Ex.noZ (Go.Proofs.Ytcmmchpofkoddaa.Ex.iMeet y (-2147483648, -1)) then
          bif !Go.Proofs.Ytcmmchpofkoddaa.Ex.leqB (Go.Proofs.Ytcmmchpofkoddaa.Ex.div4 x (Go.Proofs.Ytcmmchpofkoddaa.Ex.iMeet y (1, 2147483647))) Go.Proofs.Ytcmmchpofkoddaa.Ex.aa then
            Option.some
              (Go.Proofs.Ytcmmchpofkoddaa.Ex.AV.tup
                  [Go.Proofs.Ytcmmchpofkoddaa.Ex.AV.agg
                      [Go.Proofs.Ytcmmchpofkoddaa.Ex.AV.int Go.IntKind.i64
                          (Go.Proofs.Ytcmmchpofkoddaa.Ex.iJoin (Go.Proofs.Ytcmmchpofkoddaa.Ex.iJoin Go.Proofs.Ytcmmchpofkoddaa.Ex.nn (Go.Proofs.Ytcmmchpofkoddaa.Ex.iMeet (Go.Proofs.Ytcmmchpofkoddaa.Ex.div4 x (Go.Proofs.Ytcmmchpofkoddaa.Ex.iMeet y (1, 2147483647))) Go.Proofs.Ytcmmchpofkoddaa.Ex.aa))
                              (Go.Proofs.Ytcmmchpofkoddaa.Ex.iMeet (Go.Proofs.Ytcmmchpofkoddaa.Ex.div4 x (Go.Proofs.Ytcmmchpofkoddaa.Ex.iMeet y (-2147483648, -1))) Go.Proofs.Ytcmmchpofkoddaa.Ex.aa)).fst,
                        Go.Proofs.Ytcmmchpofkoddaa.Ex.AV.int Go.IntKind.i64
                          (Go.Proofs.Ytcmmchpofkoddaa.Ex.iJoin (Go.Proofs.Ytcmmchpofkoddaa.Ex.iJoin Go.Proofs.Ytcmmchpofkoddaa.Ex.nn (Go.Proofs.Ytcmmchpofkoddaa.Ex.iMeet (Go.Proofs.Ytcmmchpofkoddaa.Ex.div4 x (Go.Proofs.Ytcmmchpofkoddaa.Ex.iMeet y (1, 2147483647))) Go.Proofs.Ytcmmchpofkoddaa.Ex.aa))
                              (Go.Proofs.Ytcmmchpofkoddaa.Ex.iMeet (Go.Proofs.Ytcmmchpofkoddaa.Ex.div4 x (Go.Proofs.Ytcmmchpofkoddaa.Ex.iMeet y (-2147483648, -1))) Go.Proofs.Ytcmmchpofkoddaa.Ex.aa)).snd],
                    Go.Proofs.Ytcmmchpofkoddaa.Ex.AV.bool Bool.true],
                { blks := [], c := 0 })
          else
            Option.some
              (Go.Proofs.Ytcmmchpofkoddaa.Ex.AV.tup
                  [Go.Proofs.Ytcmmchpofkoddaa.Ex.AV.agg
                      [Go.Proofs.Ytcmmchpofkoddaa.Ex.AV.int Go.IntKind.i64
                          (Go.Proofs.Ytcmmchpofkoddaa.Ex.iJoin (Go.Proofs.Ytcmmchpofkoddaa.Ex.iJoin Go.Proofs.Ytcmmchpofkoddaa.Ex.nn (Go.Proofs.Ytcmmchpofkoddaa.Ex.iMeet (Go.Proofs.Ytcmmchpofkoddaa.Ex.div4 x (Go.Proofs.Ytcmmchpofkoddaa.Ex.iMeet y (1, 2147483647))) Go.Proofs.Ytcmmchpofkoddaa.Ex.aa))
                              (Go.Proofs.Ytcmmchpofkoddaa.Ex.iMeet (Go.Proofs.Ytcmmchpofkoddaa.Ex.div4 x (Go.Proofs.Ytcmmchpofkoddaa.Ex.iMeet y (-2147483648, -1))) Go.Proofs.Ytcmmchpofkoddaa.Ex.aa)).fst,
                        Go.Proofs.Ytcmmchpofkoddaa.Ex.AV.int Go.IntKind.i64
                          (Go.Proofs.Ytcmmchpofkoddaa.Ex.iJoin (Go.Proofs.Ytcmmchpofkoddaa.Ex.iJoin Go.Proofs.Ytcmmchpofkoddaa.Ex.nn (Go.Proofs.Ytcmmchpofkoddaa.Ex.iMeet (Go.Proofs.Ytcmmchpofkoddaa.Ex.div4 x (Go.Proofs.Ytcmmchpofkoddaa.Ex.iMeet y (1, 2147483647))) Go.Proofs.Ytcmmchpofkoddaa.Ex.aa))
                              (Go.Proofs.Ytcmmchpofkoddaa.Ex.iMeet (Go.Proofs.Ytcmmchpofkoddaa.Ex.div4 x (Go.Proofs.Ytcmmchpofkoddaa.Ex.iMeet y (-2147483648, -1))) Go.Proofs.Ytcmmchpofkoddaa.Ex.aa)).snd],
                    Go.Proofs.Ytcmmchpofkoddaa.Ex.AV.bool !Go.Proofs.Ytcmmchpofkoddaa.Ex.leqB (Go.Proofs.Ytcmmchpofkoddaa.Ex.div4 x (Go.Proofs.Ytcmmchpofkoddaa.Ex.iMeet y (-2147483648, -1))) Go.Proofs.Ytcmmchpofkoddaa.Ex.aa],
                { blks := [], c := 0 })
        else Option.none
      else
        Option.some
          (Go.Proofs.Ytcmmchpofkoddaa.Ex.AV.tup
              [Go.Proofs.Ytcmmchpofkoddaa.Ex.AV.agg
                  [Go.Proofs.Ytcmmchpofkoddaa.Ex.AV.int Go.IntKind.i64 (Go.Proofs.Ytcmmchpofkoddaa.Ex.iJoin Go.Proofs.Ytcmmchpofkoddaa.Ex.nn (Go.Proofs.Ytcmmchpofkoddaa.Ex.iMeet (Go.Proofs.Ytcmmchpofkoddaa.Ex.div4 x (Go.Proofs.Ytcmmchpofkoddaa.Ex.iMeet y (1, 2147483647))) Go.Proofs.Ytcmmchpofkoddaa.Ex.aa)).fst,
                    Go.Proofs.Ytcmmchpofkoddaa.Ex.AV.int Go.IntKind.i64 (Go.Proofs.Ytcmmchpofkoddaa.Ex.iJoin Go.Proofs.Ytcmmchpofkoddaa.Ex.nn (Go.Proofs.Ytcmmchpofkoddaa.Ex.iMeet (Go.Proofs.Ytcmmchpofkoddaa.Ex.div4 x (Go.Proofs.Ytcmmchpofkoddaa.Ex.iMeet y (1, 2147483647))) Go.Proofs.Ytcmmchpofkoddaa.Ex.aa)).snd],
                Go.Proofs.Ytcmmchpofkoddaa.Ex.AV.bool !Go.Proofs.Ytcmmchpofkoddaa.Ex.leqB (Go.Proofs.Ytcmmchpofkoddaa.Ex.div4 x (Go.Proofs.Ytcmmchpofkoddaa.Ex.iMeet y (1, 2147483647))) Go.Proofs.Ytcmmchpofkoddaa.Ex.aa],
            { blks := [], c := 0 })
    else Option.none
  else
    bif !Go.Proofs.Ytcmmchpofkoddaa.Ex.empB (Go.Proofs.Ytcmmchpofkoddaa.Ex.iMeet y (-2147483648, -1)) then
      bif Go.Proofs.Ytcmmchpofkoddaa.Ex.isB x && Go.Proofs.Ytcmmchpofkoddaa.Ex.isB (Go.Proofs.Ytcmmchpofkoddaa.Ex.iMeet y (-2147483648, -1)) && Go.Proofs.Ytcmmchpofkoddaa.Ex.noZ (Go.Proofs.Ytcmmchpofkoddaa.Ex.iMeet y (-2147483648, -1)) then
        Option.some
          (Go.Proofs.Ytcmmchpofkoddaa.Ex.AV.tup
              [Go.Proofs.Ytcmmchpofkoddaa.Ex.AV.agg
                  [Go.Proofs.Ytcmmchpofkoddaa.Ex.AV.int Go.IntKind.i64 (Go.Proofs.Ytcmmchpofkoddaa.Ex.iJoin Go.Proofs.Ytcmmchpofkoddaa.Ex.nn (Go.Proofs.Ytcmmchpofkoddaa.Ex.iMeet (Go.Proofs.Ytcmmchpofkoddaa.Ex.div4 x (Go.Proofs.Ytcmmchpofkoddaa.Ex.iMeet y (-2147483648, -1))) Go.Proofs.Ytcmmchpofkoddaa.Ex.aa)).fst,
                    Go.Proofs.Ytcmmchpofkoddaa.Ex.AV.int Go.IntKind.i64 (Go.Proofs.Ytcmmchpofkoddaa.Ex.iJoin Go.Proofs.Ytcmmchpofkoddaa.Ex.nn (Go.Proofs.Ytcmmchpofkoddaa.Ex.iMeet (Go.Proofs.Ytcmmchpofkoddaa.Ex.div4 x (Go.Proofs.Ytcmmchpofkoddaa.Ex.iMeet y (-2147483648, -1))) Go.Proofs.Ytcmmchpofkoddaa.Ex.aa)).snd],
                Go.Proofs.Ytcmmchpofkoddaa.Ex.AV.bool !Go.Proofs.Ytcmmchpofkoddaa.Ex.leqB (Go.Proofs.Ytcmmchpofkoddaa.Ex.div4 x (Go.Proofs.Ytcmmchpofkoddaa.Ex.iMeet y (-2147483648, -1))) Go.Proofs.Ytcmmchpofkoddaa.Ex.aa],
            { blks := [], c := 0 })
      else Option.none
    else Option.some (Go.Proofs.Ytcmmchpofkoddaa.Ex.AV.tup [Go.Proofs.Ytcmmchpofkoddaa.Ex.AV.agg [Go.Proofs.Ytcmmchpofkoddaa.Ex.AV.int Go.IntKind.i64 Go.Proofs.Ytcmmchpofkoddaa.Ex.nn.fst, Go.Proofs.Ytcmmchpofkoddaa.Ex.AV.int Go.IntKind.i64 Go.Proofs.Ytcmmchpofkoddaa.Ex.nn.snd], Go.Proofs.Ytcmmchpofkoddaa.Ex.AV.bool Bool.false], { blks := [], c := 0 }) := by kernel_rfl
theorem raw54 (x : I) (y : I) : ev cx3 54 [aI x, aI y] =
  bif !Go.Proofs.Ytcmmchpofkoddaa.Ex.empB (Go.Proofs.Ytcmmchpofkoddaa.Ex.mSpan y (1, 2147483647)) then
    bif Go.Proofs.Ytcmmchpofkoddaa.Ex.isB x && Go.Proofs.Ytcmmchpofkoddaa.Ex.isB (Go.Proofs.Ytcmmchpofkoddaa.Ex.mSpan y (1, 2147483647)) && (!Bool.true || Go.Proofs.Ytcmmchpofkoddaa.Ex.noZ (Go.Proofs.Ytcmmchpofkoddaa.Ex.mSpan y (1, 2147483647))) then
      bif !Go.Proofs.Ytcmmchpofkoddaa.Ex.empB (Go.Proofs.Ytcmmchpofkoddaa.Ex.mSpan y (-2147483648, -1)) then
        bif Go.Proofs.Ytcmmchpofkoddaa.Ex.isB x && Go.Proofs.Ytcmmchpofkoddaa.Ex.isB (Go.Proofs.Ytcmmchpofkoddaa.Ex.mSpan y (-2147483648, -1)) && (!Bool.true || Go.Proofs.Ytcmmchpofkoddaa.Ex.noZ (Go.Proofs.Ytcmmchpofkoddaa.Ex.mSpan y (-2147483648, -1))) then
          bif
              Go.Proofs.Ytcmmchpofkoddaa.Ex.clipO (if Bool.true = Bool.true then Go.Proofs.Ytcmmchpofkoddaa.Ex.div4 x (Go.Proofs.Ytcmmchpofkoddaa.Ex.mSpan y (1, 2147483647)) else Go.Proofs.Ytcmmchpofkoddaa.Ex.mul4 x (Go.Proofs.Ytcmmchpofkoddaa.Ex.mSpan y (1, 2147483647))).fst
                (if Bool.true = Bool.true then Go.Proofs.Ytcmmchpofkoddaa.Ex.div4 x (Go.Proofs.Ytcmmchpofkoddaa.Ex.mSpan y (1, 2147483647)) else Go.Proofs.Ytcmmchpofkoddaa.Ex.mul4 x (Go.Proofs.Ytcmmchpofkoddaa.Ex.mSpan y (1, 2147483647))).snd then
            Option.some
              (Go.Proofs.Ytcmmchpofkoddaa.Ex.AV.tup
                  [Go.Proofs.Ytcmmchpofkoddaa.Ex.AV.agg
                      [Go.Proofs.Ytcmmchpofkoddaa.Ex.AV.int Go.IntKind.i64
                          (Go.Proofs.Ytcmmchpofkoddaa.Ex.rJoin
                              (Go.Proofs.Ytcmmchpofkoddaa.Ex.clipV (if Bool.true = Bool.true then Go.Proofs.Ytcmmchpofkoddaa.Ex.div4 x (Go.Proofs.Ytcmmchpofkoddaa.Ex.mSpan y (1, 2147483647)) else Go.Proofs.Ytcmmchpofkoddaa.Ex.mul4 x (Go.Proofs.Ytcmmchpofkoddaa.Ex.mSpan y (1, 2147483647))).fst
                                (if Bool.true = Bool.true then Go.Proofs.Ytcmmchpofkoddaa.Ex.div4 x (Go.Proofs.Ytcmmchpofkoddaa.Ex.mSpan y (1, 2147483647)) else Go.Proofs.Ytcmmchpofkoddaa.Ex.mul4 x (Go.Proofs.Ytcmmchpofkoddaa.Ex.mSpan y (1, 2147483647))).snd)
                              (Go.Proofs.Ytcmmchpofkoddaa.Ex.clipV (if Bool.true = Bool.true then Go.Proofs.Ytcmmchpofkoddaa.Ex.div4 x (Go.Proofs.Ytcmmchpofkoddaa.Ex.mSpan y (-2147483648, -1)) else Go.Proofs.Ytcmmchpofkoddaa.Ex.mul4 x (Go.Proofs.Ytcmmchpofkoddaa.Ex.mSpan y (-2147483648, -1))).fst
                                (if Bool.true = Bool.true then Go.Proofs.Ytcmmchpofkoddaa.Ex.div4 x (Go.Proofs.Ytcmmchpofkoddaa.Ex.mSpan y (-2147483648, -1)) else Go.Proofs.Ytcmmchpofkoddaa.Ex.mul4 x (Go.Proofs.Ytcmmchpofkoddaa.Ex.mSpan y (-2147483648, -1))).snd)).fst,
                        Go.Proofs.Ytcmmchpofkoddaa.Ex.AV.int Go.IntKind.i64
                          (Go.Proofs.Ytcmmchpofkoddaa.Ex.rJoin
                              (Go.Proofs.Ytcmmchpofkoddaa.Ex.clipV (if Bool.true = Bool.true then Go.Proofs.Ytcmmchpofkoddaa.Ex.div4 x (Go.Proofs.Ytcmmchpofkoddaa.Ex.mSpan y (1, 2147483647)) else Go.Proofs.Ytcmmchpofkoddaa.Ex.mul4 x (Go.Proofs.Ytcmmchpofkoddaa.Ex.mSpan y (1, 2147483647))).fst
                                (if Bool.true = Bool.true then Go.Proofs.Ytcmmchpofkoddaa.Ex.div4 x (Go.Proofs.Ytcmmchpofkoddaa.Ex.mSpan y (1, 2147483647)) else Go.Proofs.Ytcmmchpofkoddaa.Ex.mul4 x (Go.Proofs.Ytcmmchpofkoddaa.Ex.mSpan y (1, 2147483647))).snd)
                              (Go.Proofs.Ytcmmchpofkoddaa.Ex.clipV (if Bool.true = Bool.true then Go.Proofs.Ytcmmchpofkoddaa.Ex.div4 x (Go.Proofs.Ytcmmchpofkoddaa.Ex.mSpan y (-2147483648, -1)) else Go.Proofs.Ytcmmchpofkoddaa.Ex.mul4 x (Go.Proofs.Ytcmmchpofkoddaa.Ex.mSpan y (-2147483648, -1))).fst
                                (if Bool.true = Bool.true then Go.Proofs.Ytcmmchpofkoddaa.Ex.div4 x (Go.Proofs.Ytcmmchpofkoddaa.Ex.mSpan y (-2147483648, -1)) else Go.Proofs.Ytcmmchpofkoddaa.Ex.mul4 x (Go.Proofs.Ytcmmchpofkoddaa.Ex.mSpan y (-2147483648, -1))).snd)).snd],
                    Go.Proofs.Ytcmmchpofkoddaa.Ex.AV.bool Bool.true],
                { blks := [], c := 0 })
          else
            Option.some
              (Go.Proofs.Ytcmmchpofkoddaa.Ex.AV.tup
                  [Go.Proofs.Ytcmmchpofkoddaa.Ex.AV.agg
                      [Go.Proofs.Ytcmmchpofkoddaa.Ex.AV.int Go.IntKind.i64
                          (Go.Proofs.Ytcmmchpofkoddaa.Ex.rJoin
                              (Go.Proofs.Ytcmmchpofkoddaa.Ex.clipV (if Bool.true = Bool.true then Go.Proofs.Ytcmmchpofkoddaa.Ex.div4 x (Go.Proofs.Ytcmmchpofkoddaa.Ex.mSpan y (1, 2147483647)) else Go.Proofs.Ytcmmchpofkoddaa.Ex.mul4 x (Go.Proofs.Ytcmmchpofkoddaa.Ex.mSpan y (1, 2147483647))).fst
                                (if Bool.true = Bool.true then Go.Proofs.Ytcmmchpofkoddaa.Ex.div4 x (Go.Proofs.Ytcmmchpofkoddaa.Ex.mSpan y (1, 2147483647)) else Go.Proofs.Ytcmmchpofkoddaa.Ex.mul4 x (Go.Proofs.Ytcmmchpofkoddaa.Ex.mSpan y (1, 2147483647))).snd)
                              (Go.Proofs.Ytcmmchpofkoddaa.Ex.clipV (if Bool.true = Bool.true then Go.Proofs.Ytcmmchpofkoddaa.Ex.div4 x (Go.Proofs.Ytcmmchpofkoddaa.Ex.mSpan y (-2147483648, -1)) else Go.Proofs.Ytcmmchpofkoddaa.Ex.mul4 x (Go.Proofs.Ytcmmchpofkoddaa.Ex.mSpan y (-2147483648, -1))).fst
                                (if Bool.true = Bool.true then Go.Proofs.Ytcmmchpofkoddaa.Ex.div4 x (Go.Proofs.Ytcmmchpofkoddaa.Ex.mSpan y (-2147483648, -1)) else Go.Proofs.Ytcmmchpofkoddaa.Ex.mul4 x (Go.Proofs.Ytcmmchpofkoddaa.Ex.mSpan y (-2147483648, -1))).snd)).fst,
                        Go.Proofs.Ytcmmchpofkoddaa.Ex.AV.int Go.IntKind.i64
                          (Go.Proofs.Ytcmmchpofkoddaa.Ex.rJoin
                              (Go.Proofs.Ytcmmchpofkoddaa.Ex.clipV (if Bool.true = Bool.true then Go.Proofs.Ytcmmchpofkoddaa.Ex.div4 x (Go.Proofs.Ytcmmchpofkoddaa.Ex.mSpan y (1, 2147483647)) else Go.Proofs.Ytcmmchpofkoddaa.Ex.mul4 x (Go.Proofs.Ytcmmchpofkoddaa.Ex.mSpan y (1, 2147483647))).fst
                                (if Bool.true = Bool.true then Go.Proofs.Ytcmmchpofkoddaa.Ex.div4 x (Go.Proofs.Ytcmmchpofkoddaa.Ex.mSpan y (1, 2147483647)) else Go.Proofs.Ytcmmchpofkoddaa.Ex.mul4 x (Go.Proofs.Ytcmmchpofkoddaa.Ex.mSpan y (1, 2147483647))).snd)
                              (Go.Proofs.Ytcmmchpofkoddaa.Ex.clipV (if Bool.true = Bool.true then Go.Proofs.Ytcmmchpofkoddaa.Ex.div4 x (Go.Proofs.Ytcmmchpofkoddaa.Ex.mSpan y (-2147483648, -1)) else Go.Proofs.Ytcmmchpofkoddaa.Ex.mul4 x (Go.Proofs.Ytcmmchpofkoddaa.Ex.mSpan y (-2147483648, -1))).fst
                                (if Bool.true = Bool.true then Go.Proofs.Ytcmmchpofkoddaa.Ex.div4 x (Go.Proofs.Ytcmmchpofkoddaa.Ex.mSpan y (-2147483648, -1)) else Go.Proofs.Ytcmmchpofkoddaa.Ex.mul4 x (Go.Proofs.Ytcmmchpofkoddaa.Ex.mSpan y (-2147483648, -1))).snd)).snd],
                    Go.Proofs.Ytcmmchpofkoddaa.Ex.AV.bool
                      (Go.Proofs.Ytcmmchpofkoddaa.Ex.clipO (if Bool.true = Bool.true then Go.Proofs.Ytcmmchpofkoddaa.Ex.div4 x (Go.Proofs.Ytcmmchpofkoddaa.Ex.mSpan y (-2147483648, -1)) else Go.Proofs.Ytcmmchpofkoddaa.Ex.mul4 x (Go.Proofs.Ytcmmchpofkoddaa.Ex.mSpan y (-2147483648, -1))).fst
                        (if Bool.true = Bool.true then Go.Proofs.Ytcmmchpofkoddaa.Ex.div4 x (Go.Proofs.Ytcmmchpofkoddaa.Ex.mSpan y (-2147483648, -1)) else Go.Proofs.Ytcmmchpofkoddaa.Ex.mul4 x (Go.Proofs.Ytcmmchpofkoddaa.Ex.mSpan y (-2147483648, -1))).snd)],
                { blks := [], c := 0 })
        else Option.none
      else
        Option.some
          (Go.Proofs.Ytcmmchpofkoddaa.Ex.AV.tup
              [Go.Proofs.Ytcmmchpofkoddaa.Ex.AV.agg
                  [Go.Proofs.Ytcmmchpofkoddaa.Ex.AV.int Go.IntKind.i64
                      (Go.Proofs.Ytcmmchpofkoddaa.Ex.clipV (if Bool.true = Bool.true then Go.Proofs.Ytcmmchpofkoddaa.Ex.div4 x (Go.Proofs.Ytcmmchpofkoddaa.Ex.mSpan y (1, 2147483647)) else Go.Proofs.Ytcmmchpofkoddaa.Ex.mul4 x (Go.Proofs.Ytcmmchpofkoddaa.Ex.mSpan y (1, 2147483647))).fst
                          (if Bool.true = Bool.true then Go.Proofs.Ytcmmchpofkoddaa.Ex.div4 x (Go.Proofs.Ytcmmchpofkoddaa.Ex.mSpan y (1, 2147483647)) else Go.Proofs.Ytcmmchpofkoddaa.Ex.mul4 x (Go.Proofs.Ytcmmchpofkoddaa.Ex.mSpan y (1, 2147483647))).snd).fst,
                    Go.Proofs.Ytcmmchpofkoddaa.Ex.AV.int Go.IntKind.i64
                      (Go.Proofs.Ytcmmchpofkoddaa.Ex.clipV (if Bool.true = Bool.true then Go.Proofs.Ytcmmchpofkoddaa.Ex.div4 x (Go.Proofs.Ytcmmchpofkoddaa.Ex.mSpan y (1, 2147483647)) else Go.Proofs.Ytcmmchpofkoddaa.Ex.mul4 x (Go.Proofs.Ytcmmchpofkoddaa.Ex.mSpan y (1, 2147483647))).fst
                          (if Bool.true = Bool.true then Go.Proofs.Ytcmmchpofkoddaa.Ex.div4 x (Go.Proofs.Ytcmmchpofkoddaa.Ex.mSpan y (1, 2147483647)) else Go.Proofs.Ytcmmchpofkoddaa.Ex.mul4 x (Go.Proofs.Ytcmmchpofkoddaa.Ex.mSpan y (1, 2147483647))).snd).snd],
                Go.Proofs.Ytcmmchpofkoddaa.Ex.AV.bool
                  (Go.Proofs.Ytcmmchpofkoddaa.Ex.clipO (if Bool.true = Bool.true then Go.Proofs.Ytcmmchpofkoddaa.Ex.div4 x (Go.Proofs.Ytcmmchpofkoddaa.Ex.mSpan y (1, 2147483647)) else Go.Proofs.Ytcmmchpofkoddaa.Ex.mul4 x (Go.Proofs.Ytcmmchpofkoddaa.Ex.mSpan y (1, 2147483647))).fst
                    (if Bool.true = Bool.true then Go.Proofs.Ytcmmchpofkoddaa.Ex.div4 x (Go.Proofs.Ytcmmchpofkoddaa.Ex.mSpan y (1, 2147483647)) else Go.Proofs.Ytcmmchpofkoddaa.Ex.mul4 x (Go.Proofs.Ytcmmchpofkoddaa.Ex.mSpan y (1, 2147483647))).snd)],
            { blks := [], c := 0 })
    else Option.none
  else
    bif !Go.Proofs.Ytcmmchpofkoddaa.Ex.empB (Go.Proofs.Ytcmmchpofkoddaa.Ex.mSpan y (-2147483648, -1)) then
      bif Go.Proofs.Ytcmmchpofkoddaa.Ex.isB x && Go.Proofs.Ytcmmchpofkoddaa.Ex.isB (Go.Proofs.Ytcmmchpofkoddaa.Ex.mSpan y (-2147483648, -1)) && (!Bool.true || Go.Proofs.Ytcmmchpofkoddaa.Ex.noZ (Go.Proofs.Ytcmmchpofkoddaa.Ex.mSpan y (-2147483648, -1))) then
        Option.some
          (Go.Proofs.Ytcmmchpofkoddaa.Ex.AV.tup
              [Go.Proofs.Ytcmmchpofkoddaa.Ex.AV.agg
                  [Go.Proofs.Ytcmmchpofkoddaa.Ex.AV.int Go.IntKind.i64
                      (Go.Proofs.Ytcmmchpofkoddaa.Ex.rJoin Go.Proofs.Ytcmmchpofkoddaa.Ex.nn
                          (Go.Proofs.Ytcmmchpofkoddaa.Ex.clipV (if Bool.true = Bool.true then Go.Proofs.Ytcmmchpofkoddaa.Ex.div4 x (Go.Proofs.Ytcmmchpofkoddaa.Ex.mSpan y (-2147483648, -1)) else Go.Proofs.Ytcmmchpofkoddaa.Ex.mul4 x (Go.Proofs.Ytcmmchpofkoddaa.Ex.mSpan y (-2147483648, -1))).fst
                            (if Bool.true = Bool.true then Go.Proofs.Ytcmmchpofkoddaa.Ex.div4 x (Go.Proofs.Ytcmmchpofkoddaa.Ex.mSpan y (-2147483648, -1)) else Go.Proofs.Ytcmmchpofkoddaa.Ex.mul4 x (Go.Proofs.Ytcmmchpofkoddaa.Ex.mSpan y (-2147483648, -1))).snd)).fst,
                    Go.Proofs.Ytcmmchpofkoddaa.Ex.AV.int Go.IntKind.i64
                      (Go.Proofs.Ytcmmchpofkoddaa.Ex.rJoin Go.Proofs.Ytcmmchpofkoddaa.Ex.nn
                          (Go.Proofs.Ytcmmchpofkoddaa.Ex.clipV (if Bool.true = Bool.true then Go.Proofs.Ytcmmchpofkoddaa.Ex.div4 x (Go.Proofs.Ytcmmchpofkoddaa.Ex.mSpan y (-2147483648, -1)) else Go.Proofs.Ytcmmchpofkoddaa.Ex.mul4 x (Go.Proofs.Ytcmmchpofkoddaa.Ex.mSpan y (-2147483648, -1))).fst
                            (if Bool.true = Bool.true then Go.Proofs.Ytcmmchpofkoddaa.Ex.div4 x (Go.Proofs.Ytcmmchpofkoddaa.Ex.mSpan y (-2147483648, -1)) else Go.Proofs.Ytcmmchpofkoddaa.Ex.mul4 x (Go.Proofs.Ytcmmchpofkoddaa.Ex.mSpan y (-2147483648, -1))).snd)).snd],
                Go.Proofs.Ytcmmchpofkoddaa.Ex.AV.bool
                  (Go.Proofs.Ytcmmchpofkoddaa.Ex.clipO (if Bool.true = Bool.true then Go.Proofs.Ytcmmchpofkoddaa.Ex.div4 x (Go.Proofs.Ytcmmchpofkoddaa.Ex.mSpan y (-2147483648, -1)) else Go.Proofs.Ytcmmchpofkoddaa.Ex.mul4 x (Go.Proofs.Ytcmmchpofkoddaa.Ex.mSpan y (-2147483648, -1))).fst
                    (if Bool.true = Bool.true then Go.Proofs.Ytcmmchpofkoddaa.Ex.div4 x (Go.Proofs.Ytcmmchpofkoddaa.Ex.mSpan y (-2147483648, -1)) else Go.Proofs.Ytcmmchpofkoddaa.Ex.mul4 x (Go.Proofs.Ytcmmchpofkoddaa.Ex.mSpan y (-2147483648, -1))).snd)],
            { blks := [], c := 0 })
      else Option.none
    else Option.some (Go.Proofs.Ytcmmchpofkoddaa.Ex.AV.tup [Go.Proofs.Ytcmmchpofkoddaa.Ex.AV.agg [Go.Proofs.Ytcmmchpofkoddaa.Ex.AV.int Go.IntKind.i64 Go.Proofs.Ytcmmchpofkoddaa.Ex.nn.fst, Go.Proofs.Ytcmmchpofkoddaa.Ex.AV.int Go.IntKind.i64 Go.Proofs.Ytcmmchpofkoddaa.Ex.nn.snd], Go.Proofs.Ytcmmchpofkoddaa.Ex.AV.bool Bool.false], { blks := [], c := 0 }) := by kernel_rfl
theorem raw30 (z : Int) : ev cx3 30 [aM1 z] =
  bif Go.Proofs.Ytcmmchpofkoddaa.Ex.fitB z then Option.some (Go.Proofs.Ytcmmchpofkoddaa.Ex.AV.agg [Go.Proofs.Ytcmmchpofkoddaa.Ex.AV.int Go.IntKind.i64 (Go.Proofs.Ytcmmchpofkoddaa.Ex.iJoin Go.Proofs.Ytcmmchpofkoddaa.Ex.nn (z, z)).fst, Go.Proofs.Ytcmmchpofkoddaa.Ex.AV.int Go.IntKind.i64 (Go.Proofs.Ytcmmchpofkoddaa.Ex.iJoin Go.Proofs.Ytcmmchpofkoddaa.Ex.nn (z, z)).snd], { blks := [], c := 0 })
  else Option.some (Go.Proofs.Ytcmmchpofkoddaa.Ex.AV.agg [Go.Proofs.Ytcmmchpofkoddaa.Ex.AV.int Go.IntKind.i64 Go.Proofs.Ytcmmchpofkoddaa.Ex.nn.fst, Go.Proofs.Ytcmmchpofkoddaa.Ex.AV.int Go.IntKind.i64 Go.Proofs.Ytcmmchpofkoddaa.Ex.nn.snd], { blks := [], c := 0 }) := by kernel_rfl
theorem raw45 (r : Int) (x : I) (y : I) : ev cx3 45 [aN r, aI x, aI y] =
  bif Go.Proofs.Ytcmmchpofkoddaa.Ex.empB x then
    Option.some
      (Go.Proofs.Ytcmmchpofkoddaa.Ex.AV.tup
          [Go.Proofs.Ytcmmchpofkoddaa.Ex.AV.agg [Go.Proofs.Ytcmmchpofkoddaa.Ex.AV.int Go.IntKind.i64 Go.Proofs.Ytcmmchpofkoddaa.Ex.nn.fst, Go.Proofs.Ytcmmchpofkoddaa.Ex.AV.int Go.IntKind.i64 Go.Proofs.Ytcmmchpofkoddaa.Ex.nn.snd],
            Go.Proofs.Ytcmmchpofkoddaa.Ex.AV.agg [Go.Proofs.Ytcmmchpofkoddaa.Ex.AV.int Go.IntKind.i64 Go.Proofs.Ytcmmchpofkoddaa.Ex.nn.fst, Go.Proofs.Ytcmmchpofkoddaa.Ex.AV.int Go.IntKind.i64 Go.Proofs.Ytcmmchpofkoddaa.Ex.nn.snd]],
        { blks := [], c := 0 })
  else
    bif Go.Proofs.Ytcmmchpofkoddaa.Ex.empB y then
      Option.some
        (Go.Proofs.Ytcmmchpofkoddaa.Ex.AV.tup
            [Go.Proofs.Ytcmmchpofkoddaa.Ex.AV.agg [Go.Proofs.Ytcmmchpofkoddaa.Ex.AV.int Go.IntKind.i64 Go.Proofs.Ytcmmchpofkoddaa.Ex.nn.fst, Go.Proofs.Ytcmmchpofkoddaa.Ex.AV.int Go.IntKind.i64 Go.Proofs.Ytcmmchpofkoddaa.Ex.nn.snd],
              Go.Proofs.Ytcmmchpofkoddaa.Ex.AV.agg [Go.Proofs.Ytcmmchpofkoddaa.Ex.AV.int Go.IntKind.i64 Go.Proofs.Ytcmmchpofkoddaa.Ex.nn.fst, Go.Proofs.Ytcmmchpofkoddaa.Ex.AV.int Go.IntKind.i64 Go.Proofs.Ytcmmchpofkoddaa.Ex.nn.snd]],
          { blks := [], c := 0 })
    else
      bif r == 1 then
        bif Go.Proofs.Ytcmmchpofkoddaa.Ex.empB (Go.Proofs.Ytcmmchpofkoddaa.Ex.iSpan x.fst (if Go.IntKind.i64.wrap (y.snd - 1) < x.snd then Go.IntKind.i64.wrap (y.snd - 1) else x.snd)) then
          Option.some
            (Go.Proofs.Ytcmmchpofkoddaa.Ex.AV.tup
                [Go.Proofs.Ytcmmchpofkoddaa.Ex.AV.agg [Go.Proofs.Ytcmmchpofkoddaa.Ex.AV.int Go.IntKind.i64 Go.Proofs.Ytcmmchpofkoddaa.Ex.nn.fst, Go.Proofs.Ytcmmchpofkoddaa.Ex.AV.int Go.IntKind.i64 Go.Proofs.Ytcmmchpofkoddaa.Ex.nn.snd],
                  Go.Proofs.Ytcmmchpofkoddaa.Ex.AV.agg [Go.Proofs.Ytcmmchpofkoddaa.Ex.AV.int Go.IntKind.i64 Go.Proofs.Ytcmmchpofkoddaa.Ex.nn.fst, Go.Proofs.Ytcmmchpofkoddaa.Ex.AV.int Go.IntKind.i64 Go.Proofs.Ytcmmchpofkoddaa.Ex.nn.snd]],
              { blks := [], c := 0 })
        else
          bif Go.Proofs.Ytcmmchpofkoddaa.Ex.empB (Go.Proofs.Ytcmmchpofkoddaa.Ex.iSpan (if Go.IntKind.i64.wrap (x.fst + 1) > y.fst then Go.IntKind.i64.wrap (x.fst + 1) else y.fst) y.snd) then
            Option.some
              (Go.Proofs.Ytcmmchpofkoddaa.Ex.AV.tup
                  [Go.Proofs.Ytcmmchpofkoddaa.Ex.AV.agg [Go.Proofs.Ytcmmchpofkoddaa.Ex.AV.int Go.IntKind.i64 Go.Proofs.Ytcmmchpofkoddaa.Ex.nn.fst, Go.Proofs.Ytcmmchpofkoddaa.Ex.AV.int Go.IntKind.i64 Go.Proofs.Ytcmmchpofkoddaa.Ex.nn.snd],
                    Go.Proofs.Ytcmmchpofkoddaa.Ex.AV.agg [Go.Proofs.Ytcmmchpofkoddaa.Ex.AV.int Go.IntKind.i64 Go.Proofs.Ytcmmchpofkoddaa.Ex.nn.fst, Go.Proofs.Ytcmmchpofkoddaa.Ex.AV.int Go.IntKind.i64 Go.Proofs.Ytcmmchpofkoddaa.Ex.nn.snd]],
                { blks := [], c := 0 })
          else
            Option.some
              (Go.Proofs.Ytcmmchpofkoddaa.Ex.AV.tup
                  [Go.Proofs.Ytcmmchpofkoddaa.Ex.AV.agg
                      [Go.Proofs.Ytcmmchpofkoddaa.Ex.AV.int Go.IntKind.i64 (Go.Proofs.Ytcmmchpofkoddaa.Ex.iSpan x.fst (if Go.IntKind.i64.wrap (y.snd - 1) < x.snd then Go.IntKind.i64.wrap (y.snd - 1) else x.snd)).fst,
                        Go.Proofs.Ytcmmchpofkoddaa.Ex.AV.int Go.IntKind.i64 (Go.Proofs.Ytcmmchpofkoddaa.Ex.iSpan x.fst (if Go.IntKind.i64.wrap (y.snd - 1) < x.snd then Go.IntKind.i64.wrap (y.snd - 1) else x.snd)).snd],
                    Go.Proofs.Ytcmmchpofkoddaa.Ex.AV.agg
                      [Go.Proofs.Ytcmmchpofkoddaa.Ex.AV.int Go.IntKind.i64 (Go.Proofs.Ytcmmchpofkoddaa.Ex.iSpan (if Go.IntKind.i64.wrap (x.fst + 1) > y.fst then Go.IntKind.i64.wrap (x.fst + 1) else y.fst) y.snd).fst,
                        Go.Proofs.Ytcmmchpofkoddaa.Ex.AV.int Go.IntKind.i64 (Go.Proofs.Ytcmmchpofkoddaa.Ex.iSpan (if Go.IntKind.i64.wrap (x.fst + 1) > y.fst then Go.IntKind.i64.wrap (x.fst + 1) else y.fst) y.snd).snd]],
                { blks := [], c := 0 })
      else
        bif r == 2 then
          bif Go.Proofs.Ytcmmchpofkoddaa.Ex.empB (Go.Proofs.Ytcmmchpofkoddaa.Ex.iSpan x.fst (if y.snd < x.snd then y.snd else x.snd)) then
            Option.some
              (Go.Proofs.Ytcmmchpofkoddaa.Ex.AV.tup
                  [Go.Proofs.Ytcmmchpofkoddaa.Ex.AV.agg [Go.Proofs.Ytcmmchpofkoddaa.Ex.AV.int Go.IntKind.i64 Go.Proofs.Ytcmmchpofkoddaa.Ex.nn.fst, Go.Proofs.Ytcmmchpofkoddaa.Ex.AV.int Go.IntKind.i64 Go.Proofs.Ytcmmchpofkoddaa.Ex.nn.snd],
                    Go.Proofs.Ytcmmchpofkoddaa.Ex.AV.agg [Go.Proofs.Ytcmmchpofkoddaa.Ex.AV.int Go.IntKind.i64 Go.Proofs.Ytcmmchpofkoddaa.Ex.nn.fst, Go.Proofs.Ytcmmchpofkoddaa.Ex.AV.int Go.IntKind.i64 Go.Proofs.Ytcmmchpofkoddaa.Ex.nn.snd]],
                { blks := [], c := 0 })
          else
            bif Go.Proofs.Ytcmmchpofkoddaa.Ex.empB (Go.Proofs.Ytcmmchpofkoddaa.Ex.iSpan (if x.fst > y.fst then x.fst else y.fst) y.snd) then
              Option.some
                (Go.Proofs.Ytcmmchpofkoddaa.Ex.AV.tup
                    [Go.Proofs.Ytcmmchpofkoddaa.Ex.AV.agg [Go.Proofs.Ytcmmchpofkoddaa.Ex.AV.int Go.IntKind.i64 Go.Proofs.Ytcmmchpofkoddaa.Ex.nn.fst, Go.Proofs.Ytcmmchpofkoddaa.Ex.AV.int Go.IntKind.i64 Go.Proofs.Ytcmmchpofkoddaa.Ex.nn.snd],
                      Go.Proofs.Ytcmmchpofkoddaa.Ex.AV.agg [Go.Proofs.Ytcmmchpofkoddaa.Ex.AV.int Go.IntKind.i64 Go.Proofs.Ytcmmchpofkoddaa.Ex.nn.fst, Go.Proofs.Ytcmmchpofkoddaa.Ex.AV.int Go.IntKind.i64 Go.Proofs.Ytcmmchpofkoddaa.Ex.nn.snd]],
                  { blks := [], c := 0 })
            else
              Option.some
                (Go.Proofs.Ytcmmchpofkoddaa.Ex.AV.tup
                    [Go.Proofs.Ytcmmchpofkoddaa.Ex.AV.agg
                        [Go.Proofs.Ytcmmchpofkoddaa.Ex.AV.int Go.IntKind.i64 (Go.Proofs.Ytcmmchpofkoddaa.Ex.iSpan x.fst (if y.snd < x.snd then y.snd else x.snd)).fst,
                          Go.Proofs.Ytcmmchpofkoddaa.Ex.AV.int Go.IntKind.i64 (Go.Proofs.Ytcmmchpofkoddaa.Ex.iSpan x.fst (if y.snd < x.snd then y.snd else x.snd)).snd],
                      Go.Proofs.Ytcmmchpofkoddaa.Ex.AV.agg
                        [Go.Proofs.Ytcmmchpofkoddaa.Ex.AV.int Go.IntKind.i64 (Go.Proofs.Ytcmmchpofkoddaa.Ex.iSpan (if x.fst > y.fst then x.fst else y.fst) y.snd).fst,
                          Go.Proofs.Ytcmmchpofkoddaa.Ex.AV.int Go.IntKind.i64 (Go.Proofs.Ytcmmchpofkoddaa.Ex.iSpan (if x.fst > y.fst then x.fst else y.fst) y.snd).snd]],
                  { blks := [], c := 0 })
        else
          bif r == 6 then
            bif Go.Proofs.Ytcmmchpofkoddaa.Ex.empB (Go.Proofs.Ytcmmchpofkoddaa.Ex.iSpan (if Go.IntKind.i64.wrap (y.fst + 1) > x.fst then Go.IntKind.i64.wrap (y.fst + 1) else x.fst) x.snd) then
              Option.some
                (Go.Proofs.Ytcmmchpofkoddaa.Ex.AV.tup
                    [Go.Proofs.Ytcmmchpofkoddaa.Ex.AV.agg [Go.Proofs.Ytcmmchpofkoddaa.Ex.AV.int Go.IntKind.i64 Go.Proofs.Ytcmmchpofkoddaa.Ex.nn.fst, Go.Proofs.Ytcmmchpofkoddaa.Ex.AV.int Go.IntKind.i64 Go.Proofs.Ytcmmchpofkoddaa.Ex.nn.snd],
                      Go.Proofs.Ytcmmchpofkoddaa.Ex.AV.agg [Go.Proofs.Ytcmmchpofkoddaa.Ex.AV.int Go.IntKind.i64 Go.Proofs.Ytcmmchpofkoddaa.Ex.nn.fst, Go.Proofs.Ytcmmchpofkoddaa.Ex.AV.int Go.IntKind.i64 Go.Proofs.Ytcmmchpofkoddaa.Ex.nn.snd]],
                  { blks := [], c := 0 })
            else
              bif Go.Proofs.Ytcmmchpofkoddaa.Ex.empB (Go.Proofs.Ytcmmchpofkoddaa.Ex.iSpan y.fst (if Go.IntKind.i64.wrap (x.snd - 1) < y.snd then Go.IntKind.i64.wrap (x.snd - 1) else y.snd)) then
                Option.some
                  (Go.Proofs.Ytcmmchpofkoddaa.Ex.AV.tup
                      [Go.Proofs.Ytcmmchpofkoddaa.Ex.AV.agg [Go.Proofs.Ytcmmchpofkoddaa.Ex.AV.int Go.IntKind.i64 Go.Proofs.Ytcmmchpofkoddaa.Ex.nn.fst, Go.Proofs.Ytcmmchpofkoddaa.Ex.AV.int Go.IntKind.i64 Go.Proofs.Ytcmmchpofkoddaa.Ex.nn.snd],
                        Go.Proofs.Ytcmmchpofkoddaa.Ex.AV.agg [Go.Proofs.Ytcmmchpofkoddaa.Ex.AV.int Go.IntKind.i64 Go.Proofs.Ytcmmchpofkoddaa.Ex.nn.fst, Go.Proofs.Ytcmmchpofkoddaa.Ex.AV.int Go.IntKind.i64 Go.Proofs.Ytcmmchpofkoddaa.Ex.nn.snd]],
                    { blks := [], c := 0 })
              else
                Option.some
                  (Go.Proofs.Ytcmmchpofkoddaa.Ex.AV.tup
                      [Go.Proofs.Ytcmmchpofkoddaa.Ex.AV.agg
                          [Go.Proofs.Ytcmmchpofkoddaa.Ex.AV.int Go.IntKind.i64 (Go.Proofs.Ytcmmchpofkoddaa.Ex.iSpan (if Go.IntKind.i64.wrap (y.fst + 1) > x.fst then Go.IntKind.i64.wrap (y.fst + 1) else x.fst) x.snd).fst,
                            Go.Proofs.Ytcmmchpofkoddaa.Ex.AV.int Go.IntKind.i64 (Go.Proofs.Ytcmmchpofkoddaa.Ex.iSpan (if Go.IntKind.i64.wrap (y.fst + 1) > x.fst then Go.IntKind.i64.wrap (y.fst + 1) else x.fst) x.snd).snd],
                        Go.Proofs.Ytcmmchpofkoddaa.Ex.AV.agg
                          [Go.Proofs.Ytcmmchpofkoddaa.Ex.AV.int Go.IntKind.i64 (Go.Proofs.Ytcmmchpofkoddaa.Ex.iSpan y.fst (if Go.IntKind.i64.wrap (x.snd - 1) < y.snd then Go.IntKind.i64.wrap (x.snd - 1) else y.snd)).fst,
                            Go.Proofs.Ytcmmchpofkoddaa.Ex.AV.int Go.IntKind.i64 (Go.Proofs.Ytcmmchpofkoddaa.Ex.iSpan y.fst (if Go.IntKind.i64.wrap (x.snd - 1) < y.snd then Go.IntKind.i64.wrap (x.snd - 1) else y.snd)).snd]],
                    { blks := [], c := 0 })
          else
            bif r == 5 then
              bif Go.Proofs.Ytcmmchpofkoddaa.Ex.empB (Go.Proofs.Ytcmmchpofkoddaa.Ex.iSpan (if y.fst > x.fst then y.fst else x.fst) x.snd) then
                Option.some
                  (Go.Proofs.Ytcmmchpofkoddaa.Ex.AV.tup
                      [Go.Proofs.Ytcmmchpofkoddaa.Ex.AV.agg [Go.Proofs.Ytcmmchpofkoddaa.Ex.AV.int Go.IntKind.i64 Go.Proofs.Ytcmmchpofkoddaa.Ex.nn.fst, Go.Proofs.Ytcmmchpofkoddaa.Ex.AV.int Go.IntKind.i64 Go.Proofs.Ytcmmchpofkoddaa.Ex.nn.snd],
                        Go.Proofs.Ytcmmchpofkoddaa.Ex.AV.agg [Go.Proofs.Ytcmmchpofkoddaa.Ex.AV.int Go.IntKind.i64 Go.Proofs.Ytcmmchpofkoddaa.Ex.nn.fst, Go.Proofs.Ytcmmchpofkoddaa.Ex.AV.int Go.IntKind.i64 Go.Proofs.Ytcmmchpofkoddaa.Ex.nn.snd]],
                    { blks := [], c := 0 })
              else
                bif Go.Proofs.Ytcmmchpofkoddaa.Ex.empB (Go.Proofs.Ytcmmchpofkoddaa.Ex.iSpan y.fst (if x.snd < y.snd then x.snd else y.snd)) then
                  Option.some
                    (Go.Proofs.Ytcmmchpofkoddaa.Ex.AV.tup
                        [Go.Proofs.Ytcmmchpofkoddaa.Ex.AV.agg [Go.Proofs.Ytcmmchpofkoddaa.Ex.AV.int Go.IntKind.i64 Go.Proofs.Ytcmmchpofkoddaa.Ex.nn.fst, Go.Proofs.Ytcmmchpofkoddaa.Ex.AV.int Go.IntKind.i64 Go.Proofs.Ytcmmchpofkoddaa.Ex.nn.snd],
                          Go.Proofs.Ytcmmchpofkoddaa.Ex.AV.agg [Go.Proofs.Ytcmmchpofkoddaa.Ex.AV.int Go.IntKind.i64 Go.Proofs.Ytcmmchpofkoddaa.Ex.nn.fst, Go.Proofs.Ytcmmchpofkoddaa.Ex.AV.int Go.IntKind.i64 Go.Proofs.Ytcmmchpofkoddaa.Ex.nn.snd]],
                      { blks := [], c := 0 })
                else
                  Option.some
                    (Go.Proofs.Ytcmmchpofkoddaa.Ex.AV.tup
                        [Go.Proofs.Ytcmmchpofkoddaa.Ex.AV.agg
                            [Go.Proofs.Ytcmmchpofkoddaa.Ex.AV.int Go.IntKind.i64 (Go.Proofs.Ytcmmchpofkoddaa.Ex.iSpan (if y.fst > x.fst then y.fst else x.fst) x.snd).fst,
                              Go.Proofs.Ytcmmchpofkoddaa.Ex.AV.int Go.IntKind.i64 (Go.Proofs.Ytcmmchpofkoddaa.Ex.iSpan (if y.fst > x.fst then y.fst else x.fst) x.snd).snd],
                          Go.Proofs.Ytcmmchpofkoddaa.Ex.AV.agg
                            [Go.Proofs.Ytcmmchpofkoddaa.Ex.AV.int Go.IntKind.i64 (Go.Proofs.Ytcmmchpofkoddaa.Ex.iSpan y.fst (if x.snd < y.snd then x.snd else y.snd)).fst,
                              Go.Proofs.Ytcmmchpofkoddaa.Ex.AV.int Go.IntKind.i64 (Go.Proofs.Ytcmmchpofkoddaa.Ex.iSpan y.fst (if x.snd < y.snd then x.snd else y.snd)).snd]],
                      { blks := [], c := 0 })
            else
              bif r == 3 then
                bif Go.Proofs.Ytcmmchpofkoddaa.Ex.empB (Go.Proofs.Ytcmmchpofkoddaa.Ex.mSpan x y) then
                  Option.some
                    (Go.Proofs.Ytcmmchpofkoddaa.Ex.AV.tup
                        [Go.Proofs.Ytcmmchpofkoddaa.Ex.AV.agg [Go.Proofs.Ytcmmchpofkoddaa.Ex.AV.int Go.IntKind.i64 Go.Proofs.Ytcmmchpofkoddaa.Ex.nn.fst, Go.Proofs.Ytcmmchpofkoddaa.Ex.AV.int Go.IntKind.i64 Go.Proofs.Ytcmmchpofkoddaa.Ex.nn.snd],
                          Go.Proofs.Ytcmmchpofkoddaa.Ex.AV.agg [Go.Proofs.Ytcmmchpofkoddaa.Ex.AV.int Go.IntKind.i64 Go.Proofs.Ytcmmchpofkoddaa.Ex.nn.fst, Go.Proofs.Ytcmmchpofkoddaa.Ex.AV.int Go.IntKind.i64 Go.Proofs.Ytcmmchpofkoddaa.Ex.nn.snd]],
                      { blks := [], c := 0 })
                else
                  bif Go.Proofs.Ytcmmchpofkoddaa.Ex.empB (Go.Proofs.Ytcmmchpofkoddaa.Ex.mSpan x y) then
                    Option.some
                      (Go.Proofs.Ytcmmchpofkoddaa.Ex.AV.tup
                          [Go.Proofs.Ytcmmchpofkoddaa.Ex.AV.agg [Go.Proofs.Ytcmmchpofkoddaa.Ex.AV.int Go.IntKind.i64 Go.Proofs.Ytcmmchpofkoddaa.Ex.nn.fst, Go.Proofs.Ytcmmchpofkoddaa.Ex.AV.int Go.IntKind.i64 Go.Proofs.Ytcmmchpofkoddaa.Ex.nn.snd],
                            Go.Proofs.Ytcmmchpofkoddaa.Ex.AV.agg [Go.Proofs.Ytcmmchpofkoddaa.Ex.AV.int Go.IntKind.i64 Go.Proofs.Ytcmmchpofkoddaa.Ex.nn.fst, Go.Proofs.Ytcmmchpofkoddaa.Ex.AV.int Go.IntKind.i64 Go.Proofs.Ytcmmchpofkoddaa.Ex.nn.snd]],
                        { blks := [], c := 0 })
                  else
                    Option.some
                      (Go.Proofs.Ytcmmchpofkoddaa.Ex.AV.tup
                          [Go.Proofs.Ytcmmchpofkoddaa.Ex.AV.agg [Go.Proofs.Ytcmmchpofkoddaa.Ex.AV.int Go.IntKind.i64 (Go.Proofs.Ytcmmchpofkoddaa.Ex.mSpan x y).fst, Go.Proofs.Ytcmmchpofkoddaa.Ex.AV.int Go.IntKind.i64 (Go.Proofs.Ytcmmchpofkoddaa.Ex.mSpan x y).snd],
                            Go.Proofs.Ytcmmchpofkoddaa.Ex.AV.agg [Go.Proofs.Ytcmmchpofkoddaa.Ex.AV.int Go.IntKind.i64 (Go.Proofs.Ytcmmchpofkoddaa.Ex.mSpan x y).fst, Go.Proofs.Ytcmmchpofkoddaa.Ex.AV.int Go.IntKind.i64 (Go.Proofs.Ytcmmchpofkoddaa.Ex.mSpan x y).snd]],
                        { blks := [], c := 0 })
              else
                bif r == 4 then
                  bif Go.Proofs.Ytcmmchpofkoddaa.Ex.isB x then
                    bif Go.Proofs.Ytcmmchpofkoddaa.Ex.isB y then
                      bif Go.Proofs.Ytcmmchpofkoddaa.Ex.empB (Go.Proofs.Ytcmmchpofkoddaa.Ex.oth x y) then
                        Option.some
                          (Go.Proofs.Ytcmmchpofkoddaa.Ex.AV.tup
                              [Go.Proofs.Ytcmmchpofkoddaa.Ex.AV.agg [Go.Proofs.Ytcmmchpofkoddaa.Ex.AV.int Go.IntKind.i64 Go.Proofs.Ytcmmchpofkoddaa.Ex.nn.fst, Go.Proofs.Ytcmmchpofkoddaa.Ex.AV.int Go.IntKind.i64 Go.Proofs.Ytcmmchpofkoddaa.Ex.nn.snd],
                                Go.Proofs.Ytcmmchpofkoddaa.Ex.AV.agg [Go.Proofs.Ytcmmchpofkoddaa.Ex.AV.int Go.IntKind.i64 Go.Proofs.Ytcmmchpofkoddaa.Ex.nn.fst, Go.Proofs.Ytcmmchpofkoddaa.Ex.AV.int Go.IntKind.i64 Go.Proofs.Ytcmmchpofkoddaa.Ex.nn.snd]],
                            { blks := [], c := 0 })
                      else
                        bif Go.Proofs.Ytcmmchpofkoddaa.Ex.empB (Go.Proofs.Ytcmmchpofkoddaa.Ex.oth y x) then
                          Option.some
                            (Go.Proofs.Ytcmmchpofkoddaa.Ex.AV.tup
                                [Go.Proofs.Ytcmmchpofkoddaa.Ex.AV.agg [Go.Proofs.Ytcmmchpofkoddaa.Ex.AV.int Go.IntKind.i64 Go.Proofs.Ytcmmchpofkoddaa.Ex.nn.fst, Go.Proofs.Ytcmmchpofkoddaa.Ex.AV.int Go.IntKind.i64 Go.Proofs.Ytcmmchpofkoddaa.Ex.nn.snd],
                                  Go.Proofs.Ytcmmchpofkoddaa.Ex.AV.agg [Go.Proofs.Ytcmmchpofkoddaa.Ex.AV.int Go.IntKind.i64 Go.Proofs.Ytcmmchpofkoddaa.Ex.nn.fst, Go.Proofs.Ytcmmchpofkoddaa.Ex.AV.int Go.IntKind.i64 Go.Proofs.Ytcmmchpofkoddaa.Ex.nn.snd]],
                              { blks := [], c := 0 })
                        else
                          Option.some
                            (Go.Proofs.Ytcmmchpofkoddaa.Ex.AV.tup
                                [Go.Proofs.Ytcmmchpofkoddaa.Ex.AV.agg [Go.Proofs.Ytcmmchpofkoddaa.Ex.AV.int Go.IntKind.i64 (Go.Proofs.Ytcmmchpofkoddaa.Ex.oth x y).fst, Go.Proofs.Ytcmmchpofkoddaa.Ex.AV.int Go.IntKind.i64 (Go.Proofs.Ytcmmchpofkoddaa.Ex.oth x y).snd],
                                  Go.Proofs.Ytcmmchpofkoddaa.Ex.AV.agg [Go.Proofs.Ytcmmchpofkoddaa.Ex.AV.int Go.IntKind.i64 (Go.Proofs.Ytcmmchpofkoddaa.Ex.oth y x).fst, Go.Proofs.Ytcmmchpofkoddaa.Ex.AV.int Go.IntKind.i64 (Go.Proofs.Ytcmmchpofkoddaa.Ex.oth y x).snd]],
                              { blks := [], c := 0 })
                    else Option.none
                  else Option.none
                else
                  Option.some
                    (Go.Proofs.Ytcmmchpofkoddaa.Ex.AV.tup
                        [Go.Proofs.Ytcmmchpofkoddaa.Ex.AV.agg [Go.Proofs.Ytcmmchpofkoddaa.Ex.AV.int Go.IntKind.i64 Go.Proofs.Ytcmmchpofkoddaa.Ex.nn.fst, Go.Proofs.Ytcmmchpofkoddaa.Ex.AV.int Go.IntKind.i64 Go.Proofs.Ytcmmchpofkoddaa.Ex.nn.snd],
                          Go.Proofs.Ytcmmchpofkoddaa.Ex.AV.agg [Go.Proofs.Ytcmmchpofkoddaa.Ex.AV.int Go.IntKind.i64 Go.Proofs.Ytcmmchpofkoddaa.Ex.nn.fst, Go.Proofs.Ytcmmchpofkoddaa.Ex.AV.int Go.IntKind.i64 Go.Proofs.Ytcmmchpofkoddaa.Ex.nn.snd]],
                      { blks := [], c := 0 }) := by kernel_rfl
end Go.Proofs.Ytcmmchpofkoddaa.Ex

/- Contracts, level 3. -/
namespace Go.Proofs.Ytcmmchpofkoddaa.Ex
open Go.Proofs Go.Proofs.Ytcmmchpofkoddaa
set_option maxRecDepth 100000
set_option linter.unusedSimpArgs false
set_option linter.unusedVariables false
theorem ok49 (x : I) (y : I) (hp : (isB x && isB y) = true) : ev cx3 49 [aI x, aI y] = outV (.tup [aI (quoV x y).1, .bool (quoV x y).2]) := by
  rw [raw49]
  simp only [Bool.and_eq_true] at hp
  obtain ⟨hx, hy⟩ := hp
  have eP : ((1, 2147483647) : I) = pP := rfl
  have eM : ((-2147483648, -1) : I) = pM := rfl
  simp only [eP, eM]
  unfold quoV quo1
  have hP1 := fun h => meetP_ok hy (show isB pP = true from rfl) h
  have hP2 := fun h => meetP_nz (y := y) h
  have hM1 := fun h => meetP_ok hy (show isB pM = true from rfl) h
  have hM2 := fun h => meetM_nz (y := y) h
  generalize iMeet y pP = cp at *
  generalize iMeet y pM = cm at *
  cases hp : empB cp <;> cases hm : empB cm
  · simp only [hx, hP1 hp, hP2 hp, hM1 hm, hM2 hm, Bool.not_false, cond_true, Bool.and_self]
    cases leqB (div4 x cp) aa <;> cases leqB (div4 x cm) aa <;> rfl
  · simp only [hx, hP1 hp, hP2 hp, Bool.not_false, Bool.not_true, cond_true, cond_false, Bool.and_self]
    cases leqB (div4 x cp) aa <;> rfl
  · simp only [hx, hM1 hm, hM2 hm, Bool.not_false, Bool.not_true, cond_true, cond_false, Bool.and_self]
    cases leqB (div4 x cm) aa <;> rfl
  · rfl
theorem ok54 (x : I) (y : I) (hp : (isB x && isB y) = true) : ev cx3 54 [aI x, aI y] = outV (.tup [aI (rdivV x y).1, .bool (rdivV x y).2]) := by
  rw [raw54]
  simp only [Bool.and_eq_true] at hp
  obtain ⟨hx, hy⟩ := hp
  have eP : ((1, 2147483647) : I) = pP := rfl
  have eM : ((-2147483648, -1) : I) = pM := rfl
  simp only [eP, eM]
  unfold rdivV rdiv1
  have hP1 := fun h => mSpan_ok hy (show isB pP = true from rfl) h
  have hP2 := fun h => mSpanP_nz (y := y) h
  have hM1 := fun h => mSpan_ok hy (show isB pM = true from rfl) h
  have hM2 := fun h => mSpanM_nz (y := y) h
  generalize mSpan y pP = cp at *
  generalize mSpan y pM = cm at *
  cases hp : empB cp <;> cases hm : empB cm
  · simp only [hx, hP1 hp, hP2 hp, hM1 hm, hM2 hm, Bool.not_false, cond_true, Bool.and_self, Bool.or_true, if_true, Bool.false_eq_true, if_false]
    cases clipO (div4 x cp).1 (div4 x cp).2 <;> cases clipO (div4 x cm).1 (div4 x cm).2 <;> rfl
  · simp only [hx, hP1 hp, hP2 hp, Bool.not_false, Bool.not_true, cond_true, cond_false, Bool.and_self, Bool.or_true, if_true, Bool.false_eq_true, if_false]
    cases clipO (div4 x cp).1 (div4 x cp).2 <;> rfl
  · simp only [hx, hM1 hm, hM2 hm, Bool.not_false, Bool.not_true, cond_true, cond_false, Bool.and_self, Bool.or_true, if_true, Bool.false_eq_true, if_false]
    cases clipO (div4 x cm).1 (div4 x cm).2 <;> rfl
  · rfl
theorem ok30 (z : Int) : ev cx3 30 [aM1 z] = outV (aI (if fitB z then (z, z) else nn)) := by
  rw [raw30]
  cases fitB z <;> simp [outV, aI, iJoin, empB, nn]
theorem ok45 (r : Int) (x : I) (y : I) (hp : (isB x && isB y) = true) : ev cx3 45 [aN r, aI x, aI y] = outV (.tup [aI (rrefI r x y).1, aI (rrefI r x y).2]) := by
  rw [raw45]
  simp only [Bool.and_eq_true] at hp
  have h1 := isB_abs hp.1
  have h2 := isB_abs hp.2
  obtain ⟨hx, hy⟩ := hp
  simp only [hx, hy, cond_true]
  have w1 : IntKind.i64.wrap (y.2 - 1) = y.2 - 1 := wr (by omega)
  have w2 : IntKind.i64.wrap (x.1 + 1) = x.1 + 1 := wr (by omega)
  have w3 : IntKind.i64.wrap (y.1 + 1) = y.1 + 1 := wr (by omega)
  have w4 : IntKind.i64.wrap (x.2 - 1) = x.2 - 1 := wr (by omega)
  simp only [w1, w2, w3, w4, mn_def, mx_def]
  clear w1 w2 w3 w4 h1 h2 hx hy
  unfold rrefI rboth outV aI
  by_cases o1 : r = 1
  · subst o1
    generalize empB x = b1
    generalize empB y = b2
    generalize empB (iSpan x.1 (mn x.2 (y.2 - 1))) = b3
    generalize empB (iSpan (mx y.1 (x.1 + 1)) y.2) = b4
    cases b1 <;> cases b2 <;> cases b3 <;> cases b4 <;> simp [nn]
  by_cases o2 : r = 2
  · subst o2
    generalize empB x = b1
    generalize empB y = b2
    generalize empB (iSpan x.1 (mn x.2 y.2)) = b3
    generalize empB (iSpan (mx y.1 x.1) y.2) = b4
    cases b1 <;> cases b2 <;> cases b3 <;> cases b4 <;> simp [nn]
  by_cases o6 : r = 6
  · subst o6
    generalize empB x = b1
    generalize empB y = b2
    generalize empB (iSpan (mx x.1 (y.1 + 1)) x.2) = b3
    generalize empB (iSpan y.1 (mn y.2 (x.2 - 1))) = b4
    cases b1 <;> cases b2 <;> cases b3 <;> cases b4 <;> simp [nn]
  by_cases o5 : r = 5
  · subst o5
    generalize empB x = b1
    generalize empB y = b2
    generalize empB (iSpan (mx x.1 y.1) x.2) = b3
    generalize empB (iSpan y.1 (mn y.2 x.2)) = b4
    cases b1 <;> cases b2 <;> cases b3 <;> cases b4 <;> simp [nn]
  by_cases o3 : r = 3
  · subst o3
    generalize empB x = b1
    generalize empB y = b2
    generalize empB (mSpan x y) = b3
    
    cases b1 <;> cases b2 <;> cases b3 <;> simp [nn]
  by_cases o4 : r = 4
  · subst o4
    generalize empB x = b1
    generalize empB y = b2
    generalize empB (oth x y) = b3
    generalize empB (oth y x) = b4
    cases b1 <;> cases b2 <;> cases b3 <;> cases b4 <;> simp [nn]
  have e1 : (r == 1) = false := by simp [o1]
  have e2 : (r == 2) = false := by simp [o2]
  have e3 : (r == 3) = false := by simp [o3]
  have e4 : (r == 4) = false := by simp [o4]
  have e5 : (r == 5) = false := by simp [o5]
  have e6 : (r == 6) = false := by simp [o6]
  cases empB x <;> cases empB y <;> simp [o1, o2, o3, o4, o5, o6, nn, e1, e2, e3, e4, e5, e6, empB]
def M49 : List AV → Option (Bool × AV × List Blk)
  | [v_x, v_y] => (gI v_x).bind fun x => (gI v_y).bind fun y => some ((isB x && isB y), .tup [aI (quoV x y).1, .bool (quoV x y).2], [])
  | _ => none
theorem hM49 (args : List AV) (v : AV) (bs : List Blk) (h : M49 args = some (true, v, bs)) : AV.idsL args = [] ∧ (true = true ∨ (plainV v = true ∧ bs.all plainB = true)) ∧ ∃ fb, ex ((evF cx3 keeps 3 49 args).bind (finP true)) false ⟨[], 0⟩ ⟨[], []⟩ = some (v, ⟨enumB 0 bs, bs.length⟩, fb) := by
  unfold M49 at h
  split at h
  · obtain ⟨x, h_x, h0⟩ := Option.bind_eq_some_iff.1 h
    obtain ⟨y, h_y, h1⟩ := Option.bind_eq_some_iff.1 h0
    simp only [Option.some.injEq, Prod.mk.injEq] at h1
    obtain ⟨hp, rfl, rfl⟩ := h1
    have e_x := gI_some h_x
    have e_y := gI_some h_y
    subst e_x e_y
    exact ⟨rfl, .inl rfl, ev_ex (ok49 x y hp)⟩
  · cases h
theorem snd49 : SoundA Try.prog 49 (specP true M49) := soundA_spec (fz := true) (cal3 49) hM49
def M54 : List AV → Option (Bool × AV × List Blk)
  | [v_x, v_y] => (gI v_x).bind fun x => (gI v_y).bind fun y => some ((isB x && isB y), .tup [aI (rdivV x y).1, .bool (rdivV x y).2], [])
  | _ => none
theorem hM54 (args : List AV) (v : AV) (bs : List Blk) (h : M54 args = some (true, v, bs)) : AV.idsL args = [] ∧ (true = true ∨ (plainV v = true ∧ bs.all plainB = true)) ∧ ∃ fb, ex ((evF cx3 keeps 3 54 args).bind (finP true)) false ⟨[], 0⟩ ⟨[], []⟩ = some (v, ⟨enumB 0 bs, bs.length⟩, fb) := by
  unfold M54 at h
  split at h
  · obtain ⟨x, h_x, h0⟩ := Option.bind_eq_some_iff.1 h
    obtain ⟨y, h_y, h1⟩ := Option.bind_eq_some_iff.1 h0
    simp only [Option.some.injEq, Prod.mk.injEq] at h1
    obtain ⟨hp, rfl, rfl⟩ := h1
    have e_x := gI_some h_x
    have e_y := gI_some h_y
    subst e_x e_y
    exact ⟨rfl, .inl rfl, ev_ex (ok54 x y hp)⟩
  · cases h
theorem snd54 : SoundA Try.prog 54 (specP true M54) := soundA_spec (fz := true) (cal3 54) hM54
def M30 : List AV → Option (Bool × AV × List Blk)
  | [v_z] => (gM1 v_z).bind fun z => some (true, aI (if fitB z then (z, z) else nn), [])
  | _ => none
theorem hM30 (args : List AV) (v : AV) (bs : List Blk) (h : M30 args = some (true, v, bs)) : AV.idsL args = [] ∧ (true = true ∨ (plainV v = true ∧ bs.all plainB = true)) ∧ ∃ fb, ex ((evF cx3 keeps 3 30 args).bind (finP true)) false ⟨[], 0⟩ ⟨[], []⟩ = some (v, ⟨enumB 0 bs, bs.length⟩, fb) := by
  unfold M30 at h
  split at h
  · obtain ⟨z, h_z, h0⟩ := Option.bind_eq_some_iff.1 h
    simp only [Option.some.injEq, Prod.mk.injEq] at h0
    obtain ⟨_, rfl, rfl⟩ := h0
    have e_z := gM1_some h_z
    subst e_z
    exact ⟨rfl, .inl rfl, ev_ex (ok30 z)⟩
  · cases h
theorem snd30 : SoundA Try.prog 30 (specP true M30) := soundA_spec (fz := true) (cal3 30) hM30
def M45 : List AV → Option (Bool × AV × List Blk)
  | [v_r, v_x, v_y] => (gN v_r).bind fun r => (gI v_x).bind fun x => (gI v_y).bind fun y => some ((isB x && isB y), .tup [aI (rrefI r x y).1, aI (rrefI r x y).2], [])
  | _ => none
theorem hM45 (args : List AV) (v : AV) (bs : List Blk) (h : M45 args = some (true, v, bs)) : AV.idsL args = [] ∧ (true = true ∨ (plainV v = true ∧ bs.all plainB = true)) ∧ ∃ fb, ex ((evF cx3 keeps 3 45 args).bind (finP true)) false ⟨[], 0⟩ ⟨[], []⟩ = some (v, ⟨enumB 0 bs, bs.length⟩, fb) := by
  unfold M45 at h
  split at h
  · obtain ⟨r, h_r, h0⟩ := Option.bind_eq_some_iff.1 h
    obtain ⟨x, h_x, h1⟩ := Option.bind_eq_some_iff.1 h0
    obtain ⟨y, h_y, h2⟩ := Option.bind_eq_some_iff.1 h1
    simp only [Option.some.injEq, Prod.mk.injEq] at h2
    obtain ⟨hp, rfl, rfl⟩ := h2
    have e_r := gN_some h_r
    have e_x := gI_some h_x
    have e_y := gI_some h_y
    subst e_r e_x e_y
    exact ⟨rfl, .inl rfl, ev_ex (ok45 r x y hp)⟩
  · cases h
theorem snd45 : SoundA Try.prog 45 (specP true M45) := soundA_spec (fz := true) (cal3 45) hM45
end Go.Proofs.Ytcmmchpofkoddaa.Ex

/- More of what is asked. -/
namespace Go.Proofs.Ytcmmchpofkoddaa.Ex
abbrev R3 := I × Bool × Bool
def fin3 (raw : I) : R3 := (iMeet raw aa, !leqB raw aa, false)
def doI (op : Int) (x y : I) : R3 :=
  if empB x || empB y then (nn, false, false)
  else if op = 1 then fin3 (x.1 + y.1, x.2 + y.2)
  else if op = 2 then fin3 (x.1 - y.2, x.2 - y.1)
  else if op = 3 then fin3 (mul4 x y)
  else if op = 4 then ((quoV x y).1, (quoV x y).2, hasB y 0)
  else if op = 5 then (remI x y, false, hasB y 0)
  else fin3 nn
def clip3 (a b : Int) : R3 := (clipV a b, clipO a b, false)
def rdoI (op : Int) (x y : I) : R3 :=
  if empB x || empB y then (nn, false, false)
  else if op = 1 then clip3 (x.1 + y.1) (x.2 + y.2)
  else if op = 2 then clip3 (x.1 - y.2) (x.2 - y.1)
  else if op = 3 then clip3 (mul4 x y).1 (mul4 x y).2
  else if op = 4 then ((rdivV x y).1, (rdivV x y).2, hasB y 0)
  else if op = 5 then (remI x y, false, hasB y 0)
  else (nn, false, false)
end Go.Proofs.Ytcmmchpofkoddaa.Ex

/- Contracts, level 4. -/
namespace Go.Proofs.Ytcmmchpofkoddaa.Ex
open Go.Proofs Go.Proofs.Ytcmmchpofkoddaa
set_option maxRecDepth 100000
set_option linter.unusedSimpArgs false
set_option linter.unusedVariables false
def sp4 : Nat → Option (List AV → Prog AV)
  | 31 => some (specP true M31)
  | 20 => some (specP true M20)
  | 39 => some (specP true M39)
  | 51 => some (specP true M51)
  | 37 => some (specP true M37)
  | 38 => some (specP true M38)
  | 29 => some (specP true M29)
  | 23 => some (specP true M23)
  | 33 => some (specP true M33)
  | 58 => some (specP true M58)
  | 26 => some (specP true M26)
  | 27 => some (specP true M27)
  | 34 => some (specP true M34)
  | 24 => some (specP true M24)
  | 28 => some (specP true M28)
  | 57 => some (specP true M57)
  | 25 => some (specP true M25)
  | 21 => some (specP true M21)
  | 22 => some (specP true M22)
  | 41 => some (specP true M41)
  | 59 => some (specP true M59)
  | 50 => some (specP true M50)
  | 16 => some (specP true M16)
  | 35 => some (specP true M35)
  | 47 => some (specP true M47)
  | 52 => some (specP true M52)
  | 60 => some (specP true M60)
  | 55 => some (specP true M55)
  | 42 => some (specP true M42)
  | 43 => some (specP true M43)
  | 56 => some (specP true M56)
  | 40 => some (specP true M40)
  | 53 => some (specP true M53)
  | 49 => some (specP true M49)
  | 54 => some (specP true M54)
  | 30 => some (specP true M30)
  | 45 => some (specP true M45)
  | _ => none
noncomputable def cx4 : Ctx := { tab := tab, spec := sp4, inl := inl, lps := fun _ _ => none, fuel := 10 }
theorem hsp4 : ∀ g p, cx4.spec g = some p → SoundA Try.prog g p := by
  intro g p h
  change sp4 g = some p at h
  unfold sp4 at h
  split at h
  · cases h; exact snd31
  · cases h; exact snd20
  · cases h; exact snd39
  · cases h; exact snd51
  · cases h; exact snd37
  · cases h; exact snd38
  · cases h; exact snd29
  · cases h; exact snd23
  · cases h; exact snd33
  · cases h; exact snd58
  · cases h; exact snd26
  · cases h; exact snd27
  · cases h; exact snd34
  · cases h; exact snd24
  · cases h; exact snd28
  · cases h; exact snd57
  · cases h; exact snd25
  · cases h; exact snd21
  · cases h; exact snd22
  · cases h; exact snd41
  · cases h; exact snd59
  · cases h; exact snd50
  · cases h; exact snd16
  · cases h; exact snd35
  · cases h; exact snd47
  · cases h; exact snd52
  · cases h; exact snd60
  · cases h; exact snd55
  · cases h; exact snd42
  · cases h; exact snd43
  · cases h; exact snd56
  · cases h; exact snd40
  · cases h; exact snd53
  · cases h; exact snd49
  · cases h; exact snd54
  · cases h; exact snd30
  · cases h; exact snd45
  · cases h
theorem in4 : InlOk Try.prog cx4 := ⟨inl_ok, fun _ _ _ _ _ _ _ _ h => nomatch h⟩
theorem cal4 (g : Nat) : SoundA Try.prog g (evF cx4 keeps 3 g) := evF_sound (tabOk_of tab_ok) (cmpsOk_of tab_ok cmps_ok) mixed in4 hsp4 keeps 3 g
end Go.Proofs.Ytcmmchpofkoddaa.Ex

/- What is run, level 4. -/
namespace Go.Proofs.Ytcmmchpofkoddaa.Ex
open Go.Proofs Go.Proofs.Ytcmmchpofkoddaa
set_option maxRecDepth 100000
theorem raw17 (op : Int) (x : I) (y : I) : ev cx4 17 [aN op, aI x, aI y] =
  bif Go.Proofs.Ytcmmchpofkoddaa.Ex.empB x then
    Option.some
      (Go.Proofs.Ytcmmchpofkoddaa.Ex.AV.tup [Go.Proofs.Ytcmmchpofkoddaa.Ex.AV.agg [Go.Proofs.Ytcmmchpofkoddaa.Ex.AV.int Go.IntKind.i64 Go.Proofs.Ytcmmchpofkoddaa.Ex.nn.fst, Go.Proofs.Ytcmmchpofkoddaa.Ex.AV.int Go.IntKind.i64 Go.Proofs.Ytcmmchpofkoddaa.Ex.nn.snd], Go.Proofs.Ytcmmchpofkoddaa.Ex.AV.bool Bool.false, Go.Proofs.Ytcmmchpofkoddaa.Ex.AV.bool Bool.false], { blks := [], c := 0 })
  else
    bif Go.Proofs.Ytcmmchpofkoddaa.Ex.empB y then
      Option.some
        (Go.Proofs.Ytcmmchpofkoddaa.Ex.AV.tup [Go.Proofs.Ytcmmchpofkoddaa.Ex.AV.agg [Go.Proofs.Ytcmmchpofkoddaa.Ex.AV.int Go.IntKind.i64 Go.Proofs.Ytcmmchpofkoddaa.Ex.nn.fst, Go.Proofs.Ytcmmchpofkoddaa.Ex.AV.int Go.IntKind.i64 Go.Proofs.Ytcmmchpofkoddaa.Ex.nn.snd], Go.Proofs.Ytcmmchpofkoddaa.Ex.AV.bool Bool.false, Go.Proofs.Ytcmmchpofkoddaa.Ex.AV.bool Bool.false], { blks := [], c := 0 })
    else
      bif op == 1 then
        Option.some
          (Go.Proofs.Ytcmmchpofkoddaa.Ex.AV.tup
              [Go.Proofs.Ytcmmchpofkoddaa.Ex.AV.agg
                  [Go.Proofs.Ytcmmchpofkoddaa.Ex.AV.int Go.IntKind.i64 (Go.Proofs.Ytcmmchpofkoddaa.Ex.iMeet (Go.IntKind.i64.wrap (x.fst + y.fst), Go.IntKind.i64.wrap (x.snd + y.snd)) Go.Proofs.Ytcmmchpofkoddaa.Ex.aa).fst,
                    Go.Proofs.Ytcmmchpofkoddaa.Ex.AV.int Go.IntKind.i64 (Go.Proofs.Ytcmmchpofkoddaa.Ex.iMeet (Go.IntKind.i64.wrap (x.fst + y.fst), Go.IntKind.i64.wrap (x.snd + y.snd)) Go.Proofs.Ytcmmchpofkoddaa.Ex.aa).snd],
                Go.Proofs.Ytcmmchpofkoddaa.Ex.AV.bool !Go.Proofs.Ytcmmchpofkoddaa.Ex.leqB (Go.IntKind.i64.wrap (x.fst + y.fst), Go.IntKind.i64.wrap (x.snd + y.snd)) Go.Proofs.Ytcmmchpofkoddaa.Ex.aa, Go.Proofs.Ytcmmchpofkoddaa.Ex.AV.bool Bool.false],
            { blks := [], c := 0 })
      else
        bif op == 2 then
          Option.some
            (Go.Proofs.Ytcmmchpofkoddaa.Ex.AV.tup
                [Go.Proofs.Ytcmmchpofkoddaa.Ex.AV.agg
                    [Go.Proofs.Ytcmmchpofkoddaa.Ex.AV.int Go.IntKind.i64 (Go.Proofs.Ytcmmchpofkoddaa.Ex.iMeet (Go.IntKind.i64.wrap (x.fst - y.snd), Go.IntKind.i64.wrap (x.snd - y.fst)) Go.Proofs.Ytcmmchpofkoddaa.Ex.aa).fst,
                      Go.Proofs.Ytcmmchpofkoddaa.Ex.AV.int Go.IntKind.i64 (Go.Proofs.Ytcmmchpofkoddaa.Ex.iMeet (Go.IntKind.i64.wrap (x.fst - y.snd), Go.IntKind.i64.wrap (x.snd - y.fst)) Go.Proofs.Ytcmmchpofkoddaa.Ex.aa).snd],
                  Go.Proofs.Ytcmmchpofkoddaa.Ex.AV.bool !Go.Proofs.Ytcmmchpofkoddaa.Ex.leqB (Go.IntKind.i64.wrap (x.fst - y.snd), Go.IntKind.i64.wrap (x.snd - y.fst)) Go.Proofs.Ytcmmchpofkoddaa.Ex.aa, Go.Proofs.Ytcmmchpofkoddaa.Ex.AV.bool Bool.false],
              { blks := [], c := 0 })
        else
          bif op == 3 then
            bif Go.Proofs.Ytcmmchpofkoddaa.Ex.isB x && Go.Proofs.Ytcmmchpofkoddaa.Ex.isB y then
              Option.some
                (Go.Proofs.Ytcmmchpofkoddaa.Ex.AV.tup
                    [Go.Proofs.Ytcmmchpofkoddaa.Ex.AV.agg [Go.Proofs.Ytcmmchpofkoddaa.Ex.AV.int Go.IntKind.i64 (Go.Proofs.Ytcmmchpofkoddaa.Ex.iMeet (Go.Proofs.Ytcmmchpofkoddaa.Ex.mul4 x y) Go.Proofs.Ytcmmchpofkoddaa.Ex.aa).fst, Go.Proofs.Ytcmmchpofkoddaa.Ex.AV.int Go.IntKind.i64 (Go.Proofs.Ytcmmchpofkoddaa.Ex.iMeet (Go.Proofs.Ytcmmchpofkoddaa.Ex.mul4 x y) Go.Proofs.Ytcmmchpofkoddaa.Ex.aa).snd],
                      Go.Proofs.Ytcmmchpofkoddaa.Ex.AV.bool !Go.Proofs.Ytcmmchpofkoddaa.Ex.leqB (Go.Proofs.Ytcmmchpofkoddaa.Ex.mul4 x y) Go.Proofs.Ytcmmchpofkoddaa.Ex.aa, Go.Proofs.Ytcmmchpofkoddaa.Ex.AV.bool Bool.false],
                  { blks := [], c := 0 })
            else Option.none
          else
            bif op == 4 then
              bif Go.Proofs.Ytcmmchpofkoddaa.Ex.isB x && Go.Proofs.Ytcmmchpofkoddaa.Ex.isB y then
                Option.some
                  (Go.Proofs.Ytcmmchpofkoddaa.Ex.AV.tup
                      [Go.Proofs.Ytcmmchpofkoddaa.Ex.AV.agg [Go.Proofs.Ytcmmchpofkoddaa.Ex.AV.int Go.IntKind.i64 (Go.Proofs.Ytcmmchpofkoddaa.Ex.quoV x y).fst.fst, Go.Proofs.Ytcmmchpofkoddaa.Ex.AV.int Go.IntKind.i64 (Go.Proofs.Ytcmmchpofkoddaa.Ex.quoV x y).fst.snd], Go.Proofs.Ytcmmchpofkoddaa.Ex.AV.bool (Go.Proofs.Ytcmmchpofkoddaa.Ex.quoV x y).snd,
                        Go.Proofs.Ytcmmchpofkoddaa.Ex.AV.bool (Go.Proofs.Ytcmmchpofkoddaa.Ex.hasB y 0)],
                    { blks := [], c := 0 })
              else Option.none
            else
              bif op == 5 then
                bif Go.Proofs.Ytcmmchpofkoddaa.Ex.isB x && Go.Proofs.Ytcmmchpofkoddaa.Ex.isB y then
                  Option.some
                    (Go.Proofs.Ytcmmchpofkoddaa.Ex.AV.tup
                        [Go.Proofs.Ytcmmchpofkoddaa.Ex.AV.agg [Go.Proofs.Ytcmmchpofkoddaa.Ex.AV.int Go.IntKind.i64 (Go.Proofs.Ytcmmchpofkoddaa.Ex.remI x y).fst, Go.Proofs.Ytcmmchpofkoddaa.Ex.AV.int Go.IntKind.i64 (Go.Proofs.Ytcmmchpofkoddaa.Ex.remI x y).snd], Go.Proofs.Ytcmmchpofkoddaa.Ex.AV.bool Bool.false, Go.Proofs.Ytcmmchpofkoddaa.Ex.AV.bool (Go.Proofs.Ytcmmchpofkoddaa.Ex.hasB y 0)],
                      { blks := [], c := 0 })
                else Option.none
              else
                Option.some
                  (Go.Proofs.Ytcmmchpofkoddaa.Ex.AV.tup
                      [Go.Proofs.Ytcmmchpofkoddaa.Ex.AV.agg [Go.Proofs.Ytcmmchpofkoddaa.Ex.AV.int Go.IntKind.i64 (Go.Proofs.Ytcmmchpofkoddaa.Ex.iMeet Go.Proofs.Ytcmmchpofkoddaa.Ex.nn Go.Proofs.Ytcmmchpofkoddaa.Ex.aa).fst, Go.Proofs.Ytcmmchpofkoddaa.Ex.AV.int Go.IntKind.i64 (Go.Proofs.Ytcmmchpofkoddaa.Ex.iMeet Go.Proofs.Ytcmmchpofkoddaa.Ex.nn Go.Proofs.Ytcmmchpofkoddaa.Ex.aa).snd],
                        Go.Proofs.Ytcmmchpofkoddaa.Ex.AV.bool !Go.Proofs.Ytcmmchpofkoddaa.Ex.leqB Go.Proofs.Ytcmmchpofkoddaa.Ex.nn Go.Proofs.Ytcmmchpofkoddaa.Ex.aa, Go.Proofs.Ytcmmchpofkoddaa.Ex.AV.bool Bool.false],
                    { blks := [], c := 0 }) := by kernel_rfl
theorem raw18 (op : Int) (x : I) (y : I) : ev cx4 18 [aN op, aI x, aI y] =
  bif Go.Proofs.Ytcmmchpofkoddaa.Ex.empB x then
    Option.some
      (Go.Proofs.Ytcmmchpofkoddaa.Ex.AV.tup [Go.Proofs.Ytcmmchpofkoddaa.Ex.AV.agg [Go.Proofs.Ytcmmchpofkoddaa.Ex.AV.int Go.IntKind.i64 Go.Proofs.Ytcmmchpofkoddaa.Ex.nn.fst, Go.Proofs.Ytcmmchpofkoddaa.Ex.AV.int Go.IntKind.i64 Go.Proofs.Ytcmmchpofkoddaa.Ex.nn.snd], Go.Proofs.Ytcmmchpofkoddaa.Ex.AV.bool Bool.false, Go.Proofs.Ytcmmchpofkoddaa.Ex.AV.bool Bool.false], { blks := [], c := 0 })
  else
    bif Go.Proofs.Ytcmmchpofkoddaa.Ex.empB y then
      Option.some
        (Go.Proofs.Ytcmmchpofkoddaa.Ex.AV.tup [Go.Proofs.Ytcmmchpofkoddaa.Ex.AV.agg [Go.Proofs.Ytcmmchpofkoddaa.Ex.AV.int Go.IntKind.i64 Go.Proofs.Ytcmmchpofkoddaa.Ex.nn.fst, Go.Proofs.Ytcmmchpofkoddaa.Ex.AV.int Go.IntKind.i64 Go.Proofs.Ytcmmchpofkoddaa.Ex.nn.snd], Go.Proofs.Ytcmmchpofkoddaa.Ex.AV.bool Bool.false, Go.Proofs.Ytcmmchpofkoddaa.Ex.AV.bool Bool.false], { blks := [], c := 0 })
    else
      bif op == 1 then
        Option.some
          (Go.Proofs.Ytcmmchpofkoddaa.Ex.AV.tup
              [Go.Proofs.Ytcmmchpofkoddaa.Ex.AV.agg
                  [Go.Proofs.Ytcmmchpofkoddaa.Ex.AV.int Go.IntKind.i64 (Go.Proofs.Ytcmmchpofkoddaa.Ex.clipV (Go.IntKind.i64.wrap (x.fst + y.fst)) (Go.IntKind.i64.wrap (x.snd + y.snd))).fst,
                    Go.Proofs.Ytcmmchpofkoddaa.Ex.AV.int Go.IntKind.i64 (Go.Proofs.Ytcmmchpofkoddaa.Ex.clipV (Go.IntKind.i64.wrap (x.fst + y.fst)) (Go.IntKind.i64.wrap (x.snd + y.snd))).snd],
                Go.Proofs.Ytcmmchpofkoddaa.Ex.AV.bool (Go.Proofs.Ytcmmchpofkoddaa.Ex.clipO (Go.IntKind.i64.wrap (x.fst + y.fst)) (Go.IntKind.i64.wrap (x.snd + y.snd))), Go.Proofs.Ytcmmchpofkoddaa.Ex.AV.bool Bool.false],
            { blks := [], c := 0 })
      else
        bif op == 2 then
          Option.some
            (Go.Proofs.Ytcmmchpofkoddaa.Ex.AV.tup
                [Go.Proofs.Ytcmmchpofkoddaa.Ex.AV.agg
                    [Go.Proofs.Ytcmmchpofkoddaa.Ex.AV.int Go.IntKind.i64 (Go.Proofs.Ytcmmchpofkoddaa.Ex.clipV (Go.IntKind.i64.wrap (x.fst - y.snd)) (Go.IntKind.i64.wrap (x.snd - y.fst))).fst,
                      Go.Proofs.Ytcmmchpofkoddaa.Ex.AV.int Go.IntKind.i64 (Go.Proofs.Ytcmmchpofkoddaa.Ex.clipV (Go.IntKind.i64.wrap (x.fst - y.snd)) (Go.IntKind.i64.wrap (x.snd - y.fst))).snd],
                  Go.Proofs.Ytcmmchpofkoddaa.Ex.AV.bool (Go.Proofs.Ytcmmchpofkoddaa.Ex.clipO (Go.IntKind.i64.wrap (x.fst - y.snd)) (Go.IntKind.i64.wrap (x.snd - y.fst))), Go.Proofs.Ytcmmchpofkoddaa.Ex.AV.bool Bool.false],
              { blks := [], c := 0 })
        else
          bif op == 3 then
            bif Go.Proofs.Ytcmmchpofkoddaa.Ex.isB x && Go.Proofs.Ytcmmchpofkoddaa.Ex.isB y && (!Bool.false || Go.Proofs.Ytcmmchpofkoddaa.Ex.noZ y) then
              Option.some
                (Go.Proofs.Ytcmmchpofkoddaa.Ex.AV.tup
                    [Go.Proofs.Ytcmmchpofkoddaa.Ex.AV.agg
                        [Go.Proofs.Ytcmmchpofkoddaa.Ex.AV.int Go.IntKind.i64
                            (Go.Proofs.Ytcmmchpofkoddaa.Ex.clipV (if Bool.false = Bool.true then Go.Proofs.Ytcmmchpofkoddaa.Ex.div4 x y else Go.Proofs.Ytcmmchpofkoddaa.Ex.mul4 x y).fst (if Bool.false = Bool.true then Go.Proofs.Ytcmmchpofkoddaa.Ex.div4 x y else Go.Proofs.Ytcmmchpofkoddaa.Ex.mul4 x y).snd).fst,
                          Go.Proofs.Ytcmmchpofkoddaa.Ex.AV.int Go.IntKind.i64
                            (Go.Proofs.Ytcmmchpofkoddaa.Ex.clipV (if Bool.false = Bool.true then Go.Proofs.Ytcmmchpofkoddaa.Ex.div4 x y else Go.Proofs.Ytcmmchpofkoddaa.Ex.mul4 x y).fst (if Bool.false = Bool.true then Go.Proofs.Ytcmmchpofkoddaa.Ex.div4 x y else Go.Proofs.Ytcmmchpofkoddaa.Ex.mul4 x y).snd).snd],
                      Go.Proofs.Ytcmmchpofkoddaa.Ex.AV.bool (Go.Proofs.Ytcmmchpofkoddaa.Ex.clipO (if Bool.false = Bool.true then Go.Proofs.Ytcmmchpofkoddaa.Ex.div4 x y else Go.Proofs.Ytcmmchpofkoddaa.Ex.mul4 x y).fst (if Bool.false = Bool.true then Go.Proofs.Ytcmmchpofkoddaa.Ex.div4 x y else Go.Proofs.Ytcmmchpofkoddaa.Ex.mul4 x y).snd),
                      Go.Proofs.Ytcmmchpofkoddaa.Ex.AV.bool Bool.false],
                  { blks := [], c := 0 })
            else Option.none
          else
            bif op == 4 then
              bif Go.Proofs.Ytcmmchpofkoddaa.Ex.isB x && Go.Proofs.Ytcmmchpofkoddaa.Ex.isB y then
                Option.some
                  (Go.Proofs.Ytcmmchpofkoddaa.Ex.AV.tup
                      [Go.Proofs.Ytcmmchpofkoddaa.Ex.AV.agg [Go.Proofs.Ytcmmchpofkoddaa.Ex.AV.int Go.IntKind.i64 (Go.Proofs.Ytcmmchpofkoddaa.Ex.rdivV x y).fst.fst, Go.Proofs.Ytcmmchpofkoddaa.Ex.AV.int Go.IntKind.i64 (Go.Proofs.Ytcmmchpofkoddaa.Ex.rdivV x y).fst.snd], Go.Proofs.Ytcmmchpofkoddaa.Ex.AV.bool (Go.Proofs.Ytcmmchpofkoddaa.Ex.rdivV x y).snd,
                        Go.Proofs.Ytcmmchpofkoddaa.Ex.AV.bool (Go.Proofs.Ytcmmchpofkoddaa.Ex.hasB y 0)],
                    { blks := [], c := 0 })
              else Option.none
            else
              bif op == 5 then
                bif Go.Proofs.Ytcmmchpofkoddaa.Ex.isB x && Go.Proofs.Ytcmmchpofkoddaa.Ex.isB y then
                  Option.some
                    (Go.Proofs.Ytcmmchpofkoddaa.Ex.AV.tup
                        [Go.Proofs.Ytcmmchpofkoddaa.Ex.AV.agg [Go.Proofs.Ytcmmchpofkoddaa.Ex.AV.int Go.IntKind.i64 (Go.Proofs.Ytcmmchpofkoddaa.Ex.remI x y).fst, Go.Proofs.Ytcmmchpofkoddaa.Ex.AV.int Go.IntKind.i64 (Go.Proofs.Ytcmmchpofkoddaa.Ex.remI x y).snd], Go.Proofs.Ytcmmchpofkoddaa.Ex.AV.bool Bool.false, Go.Proofs.Ytcmmchpofkoddaa.Ex.AV.bool (Go.Proofs.Ytcmmchpofkoddaa.Ex.hasB y 0)],
                      { blks := [], c := 0 })
                else Option.none
              else
                Option.some
                  (Go.Proofs.Ytcmmchpofkoddaa.Ex.AV.tup [Go.Proofs.Ytcmmchpofkoddaa.Ex.AV.agg [Go.Proofs.Ytcmmchpofkoddaa.Ex.AV.int Go.IntKind.i64 Go.Proofs.Ytcmmchpofkoddaa.Ex.nn.fst, Go.Proofs.Ytcmmchpofkoddaa.Ex.AV.int Go.IntKind.i64 Go.Proofs.Ytcmmchpofkoddaa.Ex.nn.snd], Go.Proofs.Ytcmmchpofkoddaa.Ex.AV.bool Bool.false, Go.Proofs.Ytcmmchpofkoddaa.Ex.AV.bool Bool.false],
                    { blks := [], c := 0 }) := by kernel_rfl
end Go.Proofs.Ytcmmchpofkoddaa.Ex

/- Contracts, level 4. -/
namespace Go.Proofs.Ytcmmchpofkoddaa.Ex
open Go.Proofs Go.Proofs.Ytcmmchpofkoddaa
set_option maxRecDepth 100000
set_option linter.unusedSimpArgs false
set_option linter.unusedVariables false
theorem ok17 (op : Int) (x : I) (y : I) (hp : (isB x && isB y) = true) : ev cx4 17 [aN op, aI x, aI y] = outV (.tup [aI (doI op x y).1, .bool (doI op x y).2.1, .bool (doI op x y).2.2]) := by
  rw [raw17]
  simp only [Bool.and_eq_true] at hp
  have h1 := isB_abs hp.1
  have h2 := isB_abs hp.2
  obtain ⟨hx, hy⟩ := hp
  have w1 : IntKind.i64.wrap (x.1 + y.1) = x.1 + y.1 := wr (by omega)
  have w2 : IntKind.i64.wrap (x.2 + y.2) = x.2 + y.2 := wr (by omega)
  have w3 : IntKind.i64.wrap (x.1 - y.2) = x.1 - y.2 := wr (by omega)
  have w4 : IntKind.i64.wrap (x.2 - y.1) = x.2 - y.1 := wr (by omega)
  simp only [hx, hy, w1, w2, w3, w4, cond_true, Bool.and_self, Bool.not_false, Bool.true_or, Bool.or_true, if_true, Bool.false_eq_true, if_false]
  clear w1 w2 w3 w4 h1 h2 hx hy
  unfold doI fin3 outV aI
  cases empB x <;> cases empB y
  case true.true => rfl
  case true.false => rfl
  case false.true => rfl
  by_cases o1 : op = 1
  · subst o1; simp [nn]
  by_cases o2 : op = 2
  · subst o2; simp [nn]
  by_cases o3 : op = 3
  · subst o3; simp [nn]
  by_cases o4 : op = 4
  · subst o4; simp [nn]
  by_cases o5 : op = 5
  · subst o5; simp [nn]
  have e1 : (op == 1) = false := by simp [o1]
  have e2 : (op == 2) = false := by simp [o2]
  have e3 : (op == 3) = false := by simp [o3]
  have e4 : (op == 4) = false := by simp [o4]
  have e5 : (op == 5) = false := by simp [o5]
  simp [o1, o2, o3, o4, o5, e1, e2, e3, e4, e5, nn]
  done
theorem ok18 (op : Int) (x : I) (y : I) (hp : (isB x && isB y) = true) : ev cx4 18 [aN op, aI x, aI y] = outV (.tup [aI (rdoI op x y).1, .bool (rdoI op x y).2.1, .bool (rdoI op x y).2.2]) := by
  rw [raw18]
  simp only [Bool.and_eq_true] at hp
  have h1 := isB_abs hp.1
  have h2 := isB_abs hp.2
  obtain ⟨hx, hy⟩ := hp
  have w1 : IntKind.i64.wrap (x.1 + y.1) = x.1 + y.1 := wr (by omega)
  have w2 : IntKind.i64.wrap (x.2 + y.2) = x.2 + y.2 := wr (by omega)
  have w3 : IntKind.i64.wrap (x.1 - y.2) = x.1 - y.2 := wr (by omega)
  have w4 : IntKind.i64.wrap (x.2 - y.1) = x.2 - y.1 := wr (by omega)
  simp only [hx, hy, w1, w2, w3, w4, cond_true, Bool.and_self, Bool.not_false, Bool.true_or, Bool.or_true, if_true, Bool.false_eq_true, if_false]
  clear w1 w2 w3 w4 h1 h2 hx hy
  unfold rdoI clip3 outV aI
  cases empB x <;> cases empB y
  case true.true => rfl
  case true.false => rfl
  case false.true => rfl
  by_cases o1 : op = 1
  · subst o1; simp [nn]
  by_cases o2 : op = 2
  · subst o2; simp [nn]
  by_cases o3 : op = 3
  · subst o3; simp [nn]
  by_cases o4 : op = 4
  · subst o4; simp [nn]
  by_cases o5 : op = 5
  · subst o5; simp [nn]
  have e1 : (op == 1) = false := by simp [o1]
  have e2 : (op == 2) = false := by simp [o2]
  have e3 : (op == 3) = false := by simp [o3]
  have e4 : (op == 4) = false := by simp [o4]
  have e5 : (op == 5) = false := by simp [o5]
  simp [o1, o2, o3, o4, o5, e1, e2, e3, e4, e5, nn]
  done
def M17 : List AV → Option (Bool × AV × List Blk)
  | [v_op, v_x, v_y] => (gN v_op).bind fun op => (gI v_x).bind fun x => (gI v_y).bind fun y => some ((isB x && isB y), .tup [aI (doI op x y).1, .bool (doI op x y).2.1, .bool (doI op x y).2.2], [])
  | _ => none
theorem hM17 (args : List AV) (v : AV) (bs : List Blk) (h : M17 args = some (true, v, bs)) : AV.idsL args = [] ∧ (true = true ∨ (plainV v = true ∧ bs.all plainB = true)) ∧ ∃ fb, ex ((evF cx4 keeps 3 17 args).bind (finP true)) false ⟨[], 0⟩ ⟨[], []⟩ = some (v, ⟨enumB 0 bs, bs.length⟩, fb) := by
  unfold M17 at h
  split at h
  · obtain ⟨op, h_op, h0⟩ := Option.bind_eq_some_iff.1 h
    obtain ⟨x, h_x, h1⟩ := Option.bind_eq_some_iff.1 h0
    obtain ⟨y, h_y, h2⟩ := Option.bind_eq_some_iff.1 h1
    simp only [Option.some.injEq, Prod.mk.injEq] at h2
    obtain ⟨hp, rfl, rfl⟩ := h2
    have e_op := gN_some h_op
    have e_x := gI_some h_x
    have e_y := gI_some h_y
    subst e_op e_x e_y
    exact ⟨rfl, .inl rfl, ev_ex (ok17 op x y hp)⟩
  · cases h
theorem snd17 : SoundA Try.prog 17 (specP true M17) := soundA_spec (fz := true) (cal4 17) hM17
def M18 : List AV → Option (Bool × AV × List Blk)
  | [v_op, v_x, v_y] => (gN v_op).bind fun op => (gI v_x).bind fun x => (gI v_y).bind fun y => some ((isB x && isB y), .tup [aI (rdoI op x y).1, .bool (rdoI op x y).2.1, .bool (rdoI op x y).2.2], [])
  | _ => none
theorem hM18 (args : List AV) (v : AV) (bs : List Blk) (h : M18 args = some (true, v, bs)) : AV.idsL args = [] ∧ (true = true ∨ (plainV v = true ∧ bs.all plainB = true)) ∧ ∃ fb, ex ((evF cx4 keeps 3 18 args).bind (finP true)) false ⟨[], 0⟩ ⟨[], []⟩ = some (v, ⟨enumB 0 bs, bs.length⟩, fb) := by
  unfold M18 at h
  split at h
  · obtain ⟨op, h_op, h0⟩ := Option.bind_eq_some_iff.1 h
    obtain ⟨x, h_x, h1⟩ := Option.bind_eq_some_iff.1 h0
    obtain ⟨y, h_y, h2⟩ := Option.bind_eq_some_iff.1 h1
    simp only [Option.some.injEq, Prod.mk.injEq] at h2
    obtain ⟨hp, rfl, rfl⟩ := h2
    have e_op := gN_some h_op
    have e_x := gI_some h_x
    have e_y := gI_some h_y
    subst e_op e_x e_y
    exact ⟨rfl, .inl rfl, ev_ex (ok18 op x y hp)⟩
  · cases h
theorem snd18 : SoundA Try.prog 18 (specP true M18) := soundA_spec (fz := true) (cal4 18) hM18
end Go.Proofs.Ytcmmchpofkoddaa.Ex

/- Contracts, level 5. -/
namespace Go.Proofs.Ytcmmchpofkoddaa.Ex
open Go.Proofs Go.Proofs.Ytcmmchpofkoddaa
set_option maxRecDepth 100000
set_option linter.unusedSimpArgs false
set_option linter.unusedVariables false
def sp5 : Nat → Option (List AV → Prog AV)
  | 31 => some (specP true M31)
  | 20 => some (specP true M20)
  | 39 => some (specP true M39)
  | 51 => some (specP true M51)
  | 37 => some (specP true M37)
  | 38 => some (specP true M38)
  | 29 => some (specP true M29)
  | 23 => some (specP true M23)
  | 33 => some (specP true M33)
  | 58 => some (specP true M58)
  | 26 => some (specP true M26)
  | 27 => some (specP true M27)
  | 34 => some (specP true M34)
  | 24 => some (specP true M24)
  | 28 => some (specP true M28)
  | 57 => some (specP true M57)
  | 25 => some (specP true M25)
  | 21 => some (specP true M21)
  | 22 => some (specP true M22)
  | 41 => some (specP true M41)
  | 59 => some (specP true M59)
  | 50 => some (specP true M50)
  | 16 => some (specP true M16)
  | 35 => some (specP true M35)
  | 47 => some (specP true M47)
  | 52 => some (specP true M52)
  | 60 => some (specP true M60)
  | 55 => some (specP true M55)
  | 42 => some (specP true M42)
  | 43 => some (specP true M43)
  | 56 => some (specP true M56)
  | 40 => some (specP true M40)
  | 53 => some (specP true M53)
  | 49 => some (specP true M49)
  | 54 => some (specP true M54)
  | 30 => some (specP true M30)
  | 45 => some (specP true M45)
  | 17 => some (specP true M17)
  | 18 => some (specP true M18)
  | _ => none
noncomputable def cx5 : Ctx := { tab := tab, spec := sp5, inl := inl, lps := fun _ _ => none, fuel := 10 }
theorem hsp5 : ∀ g p, cx5.spec g = some p → SoundA Try.prog g p := by
  intro g p h
  change sp5 g = some p at h
  unfold sp5 at h
  split at h
  · cases h; exact snd31
  · cases h; exact snd20
  · cases h; exact snd39
  · cases h; exact snd51
  · cases h; exact snd37
  · cases h; exact snd38
  · cases h; exact snd29
  · cases h; exact snd23
  · cases h; exact snd33
  · cases h; exact snd58
  · cases h; exact snd26
  · cases h; exact snd27
  · cases h; exact snd34
  · cases h; exact snd24
  · cases h; exact snd28
  · cases h; exact snd57
  · cases h; exact snd25
  · cases h; exact snd21
  · cases h; exact snd22
  · cases h; exact snd41
  · cases h; exact snd59
  · cases h; exact snd50
  · cases h; exact snd16
  · cases h; exact snd35
  · cases h; exact snd47
  · cases h; exact snd52
  · cases h; exact snd60
  · cases h; exact snd55
  · cases h; exact snd42
  · cases h; exact snd43
  · cases h; exact snd56
  · cases h; exact snd40
  · cases h; exact snd53
  · cases h; exact snd49
  · cases h; exact snd54
  · cases h; exact snd30
  · cases h; exact snd45
  · cases h; exact snd17
  · cases h; exact snd18
  · cases h
theorem in5 : InlOk Try.prog cx5 := ⟨inl_ok, fun _ _ _ _ _ _ _ _ h => nomatch h⟩
theorem cal5 (g : Nat) : SoundA Try.prog g (evF cx5 keeps 3 g) := evF_sound (tabOk_of tab_ok) (cmpsOk_of tab_ok cmps_ok) mixed in5 hsp5 keeps 3 g
end Go.Proofs.Ytcmmchpofkoddaa.Ex

/- What is run, level 5. -/
namespace Go.Proofs.Ytcmmchpofkoddaa.Ex
open Go.Proofs Go.Proofs.Ytcmmchpofkoddaa
set_option maxRecDepth 100000
theorem raw19  : ev cx5 19 [] =
  Option.some (Go.Proofs.Ytcmmchpofkoddaa.Ex.AV.bool (Go.Proofs.Ytcmmchpofkoddaa.Ex.nn.fst == 1 && Go.Proofs.Ytcmmchpofkoddaa.Ex.nn.snd == 0), { blks := [], c := 0 }) := by kernel_rfl
end Go.Proofs.Ytcmmchpofkoddaa.Ex

/- Contracts, level 5. -/
namespace Go.Proofs.Ytcmmchpofkoddaa.Ex
open Go.Proofs Go.Proofs.Ytcmmchpofkoddaa
set_option maxRecDepth 100000
set_option linter.unusedSimpArgs false
set_option linter.unusedVariables false
theorem ok19  : ev cx5 19 [] = outV (.bool true) := by
  rw [raw19]
  rfl
def M19 : List AV → Option (Bool × AV × List Blk)
  | [] => some (true, .bool true, [])
  | _ => none
theorem hM19 (args : List AV) (v : AV) (bs : List Blk) (h : M19 args = some (true, v, bs)) : AV.idsL args = [] ∧ (true = true ∨ (plainV v = true ∧ bs.all plainB = true)) ∧ ∃ fb, ex ((evF cx5 keeps 3 19 args).bind (finP true)) false ⟨[], 0⟩ ⟨[], []⟩ = some (v, ⟨enumB 0 bs, bs.length⟩, fb) := by
  unfold M19 at h
  split at h
  · have h0 := h
    have h0 : (true, _, _) = (true, v, bs) := Option.some.inj h0
    simp only [Prod.mk.injEq] at h0
    obtain ⟨_, rfl, rfl⟩ := h0
    exact ⟨rfl, .inl rfl, ev_ex (ok19 )⟩
  · cases h
theorem snd19 : SoundA Try.prog 19 (specP true M19) := soundA_spec (fz := true) (cal5 19) hM19
end Go.Proofs.Ytcmmchpofkoddaa.Ex

/- The laws of intervals, in plain Lean. -/
namespace Go.Proofs.Ytcmmchpofkoddaa.Ex
theorem meet_span {y p : I} (hy : empB y = false) (hp : empB p = false) : iMeet y p = mSpan y p := by
  unfold iMeet mSpan iSpan
  rw [if_neg (by rw [hy]; decide), if_neg (by rw [hp]; decide)]
  simp only [empB, decide_eq_true_eq]
theorem meet_clip {a : I} (h : a.1 ≤ a.2) : iMeet a aa = clipV a.1 a.2 := by
  have h1 : empB a = false := by simp only [empB, decide_eq_false_iff_not]; omega
  rw [meet_span h1 rfl]
  rfl
theorem leq_clip {a : I} (h : a.1 ≤ a.2) : (!leqB a aa) = clipO a.1 a.2 := by
  have h1 : empB a = false := by simp only [empB, decide_eq_false_iff_not]; omega
  have e : leqB a aa = (decide (a.1 ≥ -2147483648) && decide (a.2 ≤ 2147483647)) := by unfold leqB; rw [h1]; rfl
  rw [e]
  unfold clipO
  by_cases k1 : a.1 < -2147483648 <;> by_cases k2 : a.2 > 2147483647
  · simp [k1, k2, show ¬ a.1 ≥ -2147483648 by omega]
  · simp [k1, k2, show ¬ a.1 ≥ -2147483648 by omega]
  · simp [k1, k2, show ¬ a.2 ≤ 2147483647 by omega]
  · simp [k1, k2, show a.1 ≥ -2147483648 by omega, show a.2 ≤ 2147483647 by omega]
theorem fin_clip {a : I} (h : a.1 ≤ a.2) : fin3 a = clip3 a.1 a.2 := by
  unfold fin3 clip3
  rw [meet_clip h, leq_clip h]
theorem mul4_le (x y : I) : (mul4 x y).1 ≤ (mul4 x y).2 := by
  unfold mul4 mn mx
  simp only
  generalize x.1 * y.1 = a; generalize x.1 * y.2 = b; generalize x.2 * y.1 = c; generalize x.2 * y.2 = d
  (repeat' split) <;> omega
theorem div4_le (x y : I) : (div4 x y).1 ≤ (div4 x y).2 := by
  unfold div4 mn mx
  simp only
  generalize x.1.tdiv y.1 = a; generalize x.1.tdiv y.2 = b; generalize x.2.tdiv y.1 = c; generalize x.2.tdiv y.2 = d
  (repeat' split) <;> omega
theorem span_emp {a b : Int} (h : empB (iSpan a b) = true) : iSpan a b = nn := by
  unfold iSpan at h ⊢
  by_cases c : a > b
  · rw [if_pos c]
  · rw [if_neg c] at h; simp only [empB, decide_eq_true_eq] at h; omega
theorem clip_emp {a b : Int} (h : empB (clipV a b) = true) : clipV a b = nn := span_emp h
theorem join_nn {z : I} (h : empB z = true → z = nn) : iJoin nn z = z := by
  unfold iJoin
  rw [if_pos (show empB nn = true from rfl)]
  cases hz : empB z with
  | true => simp [h hz]
  | false => simp
theorem join_r {z u : I} (h : empB u = true → u = nn) : iJoin z u = rJoin z u := by
  unfold iJoin rJoin
  cases hz : empB z with
  | true => cases hu : empB u with
    | true => simp [h hu]
    | false => simp
  | false => rfl
theorem quo_div {x y : I} (hy : empB y = false) : quoV x y = rdivV x y := by
  unfold quoV rdivV quo1 rdiv1
  have hP : iMeet y pP = mSpan y pP := meet_span hy rfl
  have hM : iMeet y pM = mSpan y pM := meet_span hy rfl
  rw [hP, hM, meet_clip (div4_le _ _), meet_clip (div4_le _ _), leq_clip (div4_le _ _), leq_clip (div4_le _ _), join_nn (z := clipV _ _) (fun h => clip_emp h), join_r (u := clipV _ _) (fun h => clip_emp h)]
theorem doI_eq {op : Int} {x y : I} : doI op x y = rdoI op x y := by
  unfold doI rdoI
  cases hx : empB x <;> cases hy : empB y
  case true.true => rfl
  case true.false => rfl
  case false.true => rfl
  have kx : x.1 ≤ x.2 := by simp only [empB, decide_eq_false_iff_not] at hx; omega
  have ky : y.1 ≤ y.2 := by simp only [empB, decide_eq_false_iff_not] at hy; omega
  rw [fin_clip (a := (x.1 + y.1, x.2 + y.2)) (by show x.1 + y.1 ≤ x.2 + y.2; omega), fin_clip (a := (x.1 - y.2, x.2 - y.1)) (by show x.1 - y.2 ≤ x.2 - y.1; omega), fin_clip (mul4_le x y), quo_div hy]
  rfl
end Go.Proofs.Ytcmmchpofkoddaa.Ex

