/- For every input ItvSides returns true, and its arguments read as they did. No condition. -/
import Derived.Test.YtcmmchpofkoddaaXG
import Derived.ProofKit
import Derived.Handed
import Derived.JoinedOf
namespace Go.Proofs.Ytcmmchpofkoddaa.Ex
open Go.Proofs Go.Proofs.Ytcmmchpofkoddaa
set_option maxRecDepth 100000
set_option linter.unusedSimpArgs false
set_option linter.unusedVariables false
def sp6 : Nat → Option (List AV → Prog AV)
  | 31 => some (specP true M31)
  | 20 => some (specP true M20)
  | 39 => some (specP true M39)
  | 51 => some (specP true M51)
  | 37 => some (specP true M37)
  | 38 => some (specP true M38)
  | 29 => some (specP true M29)
  | 23 => some (specP true M23)
  | 33 => some (specP true M33)
  | 58 => some (specP true M58)
  | 26 => some (specP true M26)
  | 27 => some (specP true M27)
  | 34 => some (specP true M34)
  | 24 => some (specP true M24)
  | 28 => some (specP true M28)
  | 57 => some (specP true M57)
  | 25 => some (specP true M25)
  | 21 => some (specP true M21)
  | 22 => some (specP true M22)
  | 41 => some (specP true M41)
  | 59 => some (specP true M59)
  | 50 => some (specP true M50)
  | 16 => some (specP true M16)
  | 35 => some (specP true M35)
  | 47 => some (specP true M47)
  | 52 => some (specP true M52)
  | 60 => some (specP true M60)
  | 55 => some (specP true M55)
  | 42 => some (specP true M42)
  | 43 => some (specP true M43)
  | 56 => some (specP true M56)
  | 40 => some (specP true M40)
  | 53 => some (specP true M53)
  | 49 => some (specP true M49)
  | 54 => some (specP true M54)
  | 30 => some (specP true M30)
  | 45 => some (specP true M45)
  | 17 => some (specP true M17)
  | 18 => some (specP true M18)
  | 19 => some (specP true M19)
  | _ => none
noncomputable def cx6 : Ctx := { tab := tab, spec := sp6, inl := inl, lps := fun _ _ => none, fuel := 10 }
theorem hsp6 : ∀ g p, cx6.spec g = some p → SoundA Try.prog g p := by
  intro g p h
  change sp6 g = some p at h
  unfold sp6 at h
  split at h
  · cases h; exact snd31
  · cases h; exact snd20
  · cases h; exact snd39
  · cases h; exact snd51
  · cases h; exact snd37
  · cases h; exact snd38
  · cases h; exact snd29
  · cases h; exact snd23
  · cases h; exact snd33
  · cases h; exact snd58
  · cases h; exact snd26
  · cases h; exact snd27
  · cases h; exact snd34
  · cases h; exact snd24
  · cases h; exact snd28
  · cases h; exact snd57
  · cases h; exact snd25
  · cases h; exact snd21
  · cases h; exact snd22
  · cases h; exact snd41
  · cases h; exact snd59
  · cases h; exact snd50
  · cases h; exact snd16
  · cases h; exact snd35
  · cases h; exact snd47
  · cases h; exact snd52
  · cases h; exact snd60
  · cases h; exact snd55
  · cases h; exact snd42
  · cases h; exact snd43
  · cases h; exact snd56
  · cases h; exact snd40
  · cases h; exact snd53
  · cases h; exact snd49
  · cases h; exact snd54
  · cases h; exact snd30
  · cases h; exact snd45
  · cases h; exact snd17
  · cases h; exact snd18
  · cases h; exact snd19
  · cases h
theorem in6 : InlOk Try.prog cx6 := ⟨inl_ok, fun _ _ _ _ _ _ _ _ h => nomatch h⟩
theorem cal6 (g : Nat) : SoundA Try.prog g (evF cx6 keeps 3 g) := evF_sound (tabOk_of tab_ok) (cmpsOk_of tab_ok cmps_ok) mixed in6 hsp6 keeps 3 g
open Go.ChangeShapes Go.WideShapes Go.ChangeAt Go.RowKit
theorem raw12 (r : Int) (x : I) (y : I) : ev cx6 12 [aN r, aI x, aI y] =
  bif !(Go.Proofs.Ytcmmchpofkoddaa.Ex.isB x && Go.Proofs.Ytcmmchpofkoddaa.Ex.isB y) then Option.some (Go.Proofs.Ytcmmchpofkoddaa.Ex.AV.bool Bool.true, { blks := [], c := 0 })
  else
    bif Decidable.decide (r < 1) then Option.some (Go.Proofs.Ytcmmchpofkoddaa.Ex.AV.bool Bool.true, { blks := [], c := 0 })
    else
      bif Decidable.decide (r > 6) then Option.some (Go.Proofs.Ytcmmchpofkoddaa.Ex.AV.bool Bool.true, { blks := [], c := 0 })
      else
        bif Go.Proofs.Ytcmmchpofkoddaa.Ex.empB x then Option.some (Go.Proofs.Ytcmmchpofkoddaa.Ex.AV.bool Bool.true, { blks := [], c := 0 })
        else
          bif Go.Proofs.Ytcmmchpofkoddaa.Ex.empB y then Option.some (Go.Proofs.Ytcmmchpofkoddaa.Ex.AV.bool Bool.true, { blks := [], c := 0 })
          else
            bif Go.Proofs.Ytcmmchpofkoddaa.Ex.isB x && Go.Proofs.Ytcmmchpofkoddaa.Ex.isB y then
              bif Go.Proofs.Ytcmmchpofkoddaa.Ex.isB x && Go.Proofs.Ytcmmchpofkoddaa.Ex.isB y then
                bif Go.Proofs.Ytcmmchpofkoddaa.Ex.isB y && Go.Proofs.Ytcmmchpofkoddaa.Ex.isB x then
                  bif (Go.Proofs.Ytcmmchpofkoddaa.Ex.iJoin (Go.Proofs.Ytcmmchpofkoddaa.Ex.refI r x y).fst (Go.Proofs.Ytcmmchpofkoddaa.Ex.refI (Go.Proofs.Ytcmmchpofkoddaa.Ex.notR r) x y).fst).fst == x.fst && (Go.Proofs.Ytcmmchpofkoddaa.Ex.iJoin (Go.Proofs.Ytcmmchpofkoddaa.Ex.refI r x y).fst (Go.Proofs.Ytcmmchpofkoddaa.Ex.refI (Go.Proofs.Ytcmmchpofkoddaa.Ex.notR r) x y).fst).snd == x.snd then
                    bif
                        (Go.Proofs.Ytcmmchpofkoddaa.Ex.iJoin (Go.Proofs.Ytcmmchpofkoddaa.Ex.refI r x y).snd (Go.Proofs.Ytcmmchpofkoddaa.Ex.refI (Go.Proofs.Ytcmmchpofkoddaa.Ex.notR r) x y).snd).fst == y.fst &&
                          (Go.Proofs.Ytcmmchpofkoddaa.Ex.iJoin (Go.Proofs.Ytcmmchpofkoddaa.Ex.refI r x y).snd (Go.Proofs.Ytcmmchpofkoddaa.Ex.refI (Go.Proofs.Ytcmmchpofkoddaa.Ex.notR r) x y).snd).snd == y.snd then
                      bif (Go.Proofs.Ytcmmchpofkoddaa.Ex.refI (Go.Proofs.Ytcmmchpofkoddaa.Ex.turnR r) y x).snd.fst == (Go.Proofs.Ytcmmchpofkoddaa.Ex.refI r x y).fst.fst && (Go.Proofs.Ytcmmchpofkoddaa.Ex.refI (Go.Proofs.Ytcmmchpofkoddaa.Ex.turnR r) y x).snd.snd == (Go.Proofs.Ytcmmchpofkoddaa.Ex.refI r x y).fst.snd then
                        bif (Go.Proofs.Ytcmmchpofkoddaa.Ex.refI (Go.Proofs.Ytcmmchpofkoddaa.Ex.turnR r) y x).fst.fst == (Go.Proofs.Ytcmmchpofkoddaa.Ex.refI r x y).snd.fst && (Go.Proofs.Ytcmmchpofkoddaa.Ex.refI (Go.Proofs.Ytcmmchpofkoddaa.Ex.turnR r) y x).fst.snd == (Go.Proofs.Ytcmmchpofkoddaa.Ex.refI r x y).snd.snd then
                          Option.some (Go.Proofs.Ytcmmchpofkoddaa.Ex.AV.bool Bool.true, { blks := [], c := 0 })
                        else Option.some (Go.Proofs.Ytcmmchpofkoddaa.Ex.AV.bool Bool.false, { blks := [], c := 0 })
                      else Option.some (Go.Proofs.Ytcmmchpofkoddaa.Ex.AV.bool Bool.false, { blks := [], c := 0 })
                    else Option.some (Go.Proofs.Ytcmmchpofkoddaa.Ex.AV.bool Bool.false, { blks := [], c := 0 })
                  else Option.some (Go.Proofs.Ytcmmchpofkoddaa.Ex.AV.bool Bool.false, { blks := [], c := 0 })
                else Option.none
              else Option.none
            else Option.none := by kernel_rfl
theorem emp_iff {a b : Int} : empB (a, b) = true ↔ a > b := by simp [empB]
theorem emp_no {a b : Int} (h : a ≤ b) : empB (a, b) = false := by simp [empB]; omega
theorem emp_yes {a b : Int} (h : a > b) : empB (a, b) = true := emp_iff.2 h
theorem both_if {a b c d e f g k : Int} (hx : a ≤ b) (hy : c ≤ d) : both (a, b) (c, d) (e, f) (g, k) = if e ≤ f ∧ g ≤ k then ((e, f), (g, k)) else (nn, nn) := by
  unfold both
  rw [emp_no hx, emp_no hy]
  by_cases h : e ≤ f ∧ g ≤ k
  · rw [if_pos h, emp_no h.1, emp_no h.2]; rfl
  · rw [if_neg h]
    by_cases h1 : e ≤ f
    · rw [emp_no h1, emp_yes (a := g) (b := k) (by omega)]; rfl
    · rw [emp_yes (a := e) (b := f) (by omega)]; rfl
theorem meet_if {a b c d : Int} (hx : a ≤ b) (hy : c ≤ d) : iMeet (a, b) (c, d) = if a ≤ d ∧ c ≤ b then (mx a c, mn b d) else nn := by
  unfold iMeet
  rw [emp_no hx, emp_no hy]
  simp only [Bool.false_eq_true, if_false]
  by_cases h : a ≤ d ∧ c ≤ b
  · rw [if_pos h, emp_no (by unfold mx mn; omega)]; simp
  · rw [if_neg h, emp_yes (by unfold mx mn; omega)]; simp
theorem join_if {a b c d : Int} (hx : a ≤ b) (hy : c ≤ d) : iJoin (a, b) (c, d) = (mn a c, mx b d) := by
  unfold iJoin
  rw [emp_no hx, emp_no hy]; simp
theorem join_nl {c d : Int} (hy : c ≤ d) : iJoin nn (c, d) = (c, d) := by
  unfold iJoin
  rw [show empB nn = true from rfl, emp_no hy]; simp
theorem join_nr {c d : Int} (hy : c ≤ d) : iJoin (c, d) nn = (c, d) := by
  unfold iJoin
  rw [show empB nn = true from rfl, emp_no hy]; simp
section
variable {a b c d : Int} (hx : a ≤ b) (hy : c ≤ d)
include hx hy
theorem ref1 : refI 1 (a, b) (c, d) = if a < d then ((a, mn b (d - 1)), (mx c (a + 1), d)) else (nn, nn) := by
  unfold refI; simp only [if_true]
  rw [both_if hx hy]
  by_cases h : a < d
  · rw [if_pos h, if_pos (by unfold mx mn; omega)]
  · rw [if_neg h, if_neg (by unfold mx mn; omega)]
theorem ref2 : refI 2 (a, b) (c, d) = if a ≤ d then ((a, mn b d), (mx c a, d)) else (nn, nn) := by
  show both _ _ _ _ = _
  rw [both_if hx hy]
  by_cases h : a ≤ d
  · rw [if_pos h, if_pos (by unfold mx mn; omega)]
  · rw [if_neg h, if_neg (by unfold mx mn; omega)]
theorem ref5 : refI 5 (a, b) (c, d) = if c ≤ b then ((mx a c, b), (c, mn d b)) else (nn, nn) := by
  show both _ _ _ _ = _
  rw [both_if hx hy]
  by_cases h : c ≤ b
  · rw [if_pos h, if_pos (by unfold mx mn; omega)]
  · rw [if_neg h, if_neg (by unfold mx mn; omega)]
theorem ref6 : refI 6 (a, b) (c, d) = if c < b then ((mx a (c + 1), b), (c, mn d (b - 1))) else (nn, nn) := by
  show both _ _ _ _ = _
  rw [both_if hx hy]
  by_cases h : c < b
  · rw [if_pos h, if_pos (by unfold mx mn; omega)]
  · rw [if_neg h, if_neg (by unfold mx mn; omega)]
theorem ref3 : refI 3 (a, b) (c, d) = if a ≤ d ∧ c ≤ b then ((mx a c, mn b d), (mx a c, mn b d)) else (nn, nn) := by
  show both _ _ _ _ = _
  rw [meet_if hx hy]
  by_cases h : a ≤ d ∧ c ≤ b
  · rw [if_pos h, if_pos h, both_if hx hy, if_pos (by unfold mx mn; omega)]
  · rw [if_neg h, if_neg h]; unfold both; simp [show empB nn = true from rfl]
omit hx hy in
theorem wout_eq : wout (a, b) (c, d) = (if c = d ∧ a = c then a + 1 else a, if c = d ∧ a ≠ c ∧ b = c then b - 1 else b) := by
  unfold wout
  by_cases h1 : c = d
  · by_cases h2 : a = c
    · simp [h1, h2]
    · by_cases h3 : b = c
      · simp_all
      · simp_all
  · simp [h1]
theorem ref4 : refI 4 (a, b) (c, d) = if a = b ∧ c = d ∧ a = c then (nn, nn) else ((if c = d ∧ a = c then a + 1 else a, if c = d ∧ a ≠ c ∧ b = c then b - 1 else b), (if a = b ∧ c = a then c + 1 else c, if a = b ∧ c ≠ a ∧ d = a then d - 1 else d)) := by
  show both _ _ _ _ = _
  rw [wout_eq, wout_eq, both_if hx hy]
  by_cases h : a = b ∧ c = d ∧ a = c
  · rw [if_pos h, if_neg (by obtain ⟨rfl, rfl, rfl⟩ := h; simp; try omega)]
  · rw [if_neg h, if_pos (by constructor <;> omega)]
theorem side1 : iJoin (refI 1 (a, b) (c, d)).1 (refI 5 (a, b) (c, d)).1 = (a, b) ∧ iJoin (refI 1 (a, b) (c, d)).2 (refI 5 (a, b) (c, d)).2 = (c, d) := by
  rw [ref1 hx hy, ref5 hx hy]
  by_cases h : a < d <;> by_cases k : c ≤ b
  · rw [if_pos h, if_pos k, join_if (by unfold mn; omega) (by unfold mx; omega), join_if (by unfold mx; omega) (by unfold mn; omega)]
    simp only [Prod.mk.injEq]; unfold mn mx; refine ⟨⟨?_, ?_⟩, ?_, ?_⟩ <;> (first | trivial | ((repeat' split) <;> omega))
  · rw [if_pos h, if_neg k, join_nr (by unfold mn; omega), join_nr (by unfold mx; omega)]
    simp only [Prod.mk.injEq]; unfold mn mx; refine ⟨⟨?_, ?_⟩, ?_, ?_⟩ <;> (first | trivial | ((repeat' split) <;> omega))
  · rw [if_neg h, if_pos k, join_nl (by unfold mx; omega), join_nl (by unfold mn; omega)]
    simp only [Prod.mk.injEq]; unfold mn mx; refine ⟨⟨?_, ?_⟩, ?_, ?_⟩ <;> (first | trivial | ((repeat' split) <;> omega))
  · omega
theorem side2 : iJoin (refI 2 (a, b) (c, d)).1 (refI 6 (a, b) (c, d)).1 = (a, b) ∧ iJoin (refI 2 (a, b) (c, d)).2 (refI 6 (a, b) (c, d)).2 = (c, d) := by
  rw [ref2 hx hy, ref6 hx hy]
  by_cases h : a ≤ d <;> by_cases k : c < b
  · rw [if_pos h, if_pos k, join_if (by unfold mn; omega) (by unfold mx; omega), join_if (by unfold mx; omega) (by unfold mn; omega)]
    simp only [Prod.mk.injEq]; unfold mn mx; refine ⟨⟨?_, ?_⟩, ?_, ?_⟩ <;> (first | trivial | ((repeat' split) <;> omega))
  · rw [if_pos h, if_neg k, join_nr (by unfold mn; omega), join_nr (by unfold mx; omega)]
    simp only [Prod.mk.injEq]; unfold mn mx; refine ⟨⟨?_, ?_⟩, ?_, ?_⟩ <;> (first | trivial | ((repeat' split) <;> omega))
  · rw [if_neg h, if_pos k, join_nl (by unfold mx; omega), join_nl (by unfold mn; omega)]
    simp only [Prod.mk.injEq]; unfold mn mx; refine ⟨⟨?_, ?_⟩, ?_, ?_⟩ <;> (first | trivial | ((repeat' split) <;> omega))
  · omega
theorem side3 : iJoin (refI 3 (a, b) (c, d)).1 (refI 4 (a, b) (c, d)).1 = (a, b) ∧ iJoin (refI 3 (a, b) (c, d)).2 (refI 4 (a, b) (c, d)).2 = (c, d) := by
  rw [ref3 hx hy, ref4 hx hy]
  by_cases h : a ≤ d ∧ c ≤ b <;> by_cases k : a = b ∧ c = d ∧ a = c
  · rw [if_pos h, if_pos k, join_nr (by unfold mn mx; omega)]
    simp only [Prod.mk.injEq]; unfold mn mx; refine ⟨⟨?_, ?_⟩, ?_, ?_⟩ <;> (first | trivial | ((repeat' split) <;> omega))
  · rw [if_pos h, if_neg k, join_if (by unfold mn mx; omega) (by omega), join_if (by unfold mx mn; omega) (by omega)]
    simp only [Prod.mk.injEq]; unfold mn mx; refine ⟨⟨?_, ?_⟩, ?_, ?_⟩ <;> (first | trivial | ((repeat' split) <;> omega))
  · omega
  · rw [if_neg h, if_neg k, join_nl (by omega), join_nl (by omega)]
    simp only [Prod.mk.injEq]; omega
end
theorem join_comm (x y : I) : iJoin x y = iJoin y x := by
  simp only [iJoin, empB, nn, mn, mx, decide_eq_true_eq]
  (repeat' split) <;> simp_all <;> (try omega)
theorem mx_comm (a b : Int) : mx a b = mx b a := by unfold mx; omega
theorem mn_comm (a b : Int) : mn a b = mn b a := by unfold mn; omega
theorem sides (r : Int) (h1 : 1 ≤ r) (h2 : r ≤ 6) (x y : I) (hx : empB x = false) (hy : empB y = false) :
    iJoin (refI r x y).1 (refI (notR r) x y).1 = x ∧ iJoin (refI r x y).2 (refI (notR r) x y).2 = y ∧ (refI (turnR r) y x).2 = (refI r x y).1 ∧ (refI (turnR r) y x).1 = (refI r x y).2 := by
  have hr : r = 1 ∨ r = 2 ∨ r = 3 ∨ r = 4 ∨ r = 5 ∨ r = 6 := by omega
  obtain ⟨a, b⟩ := x
  obtain ⟨c, d⟩ := y
  simp only [empB, decide_eq_false_iff_not] at hx hy
  have hx : a ≤ b := by omega
  have hy : c ≤ d := by omega
  rcases hr with rfl | rfl | rfl | rfl | rfl | rfl
  · refine ⟨(side1 hx hy).1, (side1 hx hy).2, ?_⟩
    show (refI 6 _ _).2 = _ ∧ (refI 6 _ _).1 = _
    rw [ref6 hy hx, ref1 hx hy]; split <;> exact ⟨rfl, rfl⟩
  · refine ⟨(side2 hx hy).1, (side2 hx hy).2, ?_⟩
    show (refI 5 _ _).2 = _ ∧ (refI 5 _ _).1 = _
    rw [ref5 hy hx, ref2 hx hy]; split <;> exact ⟨rfl, rfl⟩
  · refine ⟨(side3 hx hy).1, (side3 hx hy).2, ?_⟩
    show (refI 3 _ _).2 = _ ∧ (refI 3 _ _).1 = _
    rw [ref3 hy hx, ref3 hx hy]
    by_cases h : a ≤ d ∧ c ≤ b
    · rw [if_pos h, if_pos ⟨h.2, h.1⟩, mx_comm c a, mn_comm d b]; exact ⟨rfl, rfl⟩
    · rw [if_neg h, if_neg (fun g => h ⟨g.2, g.1⟩)]; exact ⟨rfl, rfl⟩
  · refine ⟨(join_comm _ _).trans (side3 hx hy).1, (join_comm _ _).trans (side3 hx hy).2, ?_⟩
    show (refI 4 _ _).2 = _ ∧ (refI 4 _ _).1 = _
    rw [ref4 hy hx, ref4 hx hy]
    by_cases h : a = b ∧ c = d ∧ a = c
    · rw [if_pos h, if_pos ⟨h.2.1, h.1, h.2.2.symm⟩]; exact ⟨rfl, rfl⟩
    · rw [if_neg h, if_neg (fun g => h ⟨g.2.1, g.1, g.2.2.symm⟩)]; exact ⟨rfl, rfl⟩
  · refine ⟨(join_comm _ _).trans (side1 hx hy).1, (join_comm _ _).trans (side1 hx hy).2, ?_⟩
    show (refI 2 _ _).2 = _ ∧ (refI 2 _ _).1 = _
    rw [ref2 hy hx, ref5 hx hy]; split <;> exact ⟨rfl, rfl⟩
  · refine ⟨(join_comm _ _).trans (side2 hx hy).1, (join_comm _ _).trans (side2 hx hy).2, ?_⟩
    show (refI 1 _ _).2 = _ ∧ (refI 1 _ _).1 = _
    rw [ref1 hy hx, ref6 hx hy]; split <;> exact ⟨rfl, rfl⟩
set_option maxRecDepth 100000
theorem ok12 (r : Int) (x : I) (y : I) : ev cx6 12 [aN r, aI x, aI y] = outV (.bool true) := by
  rw [raw12]
  cases hxy : isB x && isB y with
  | false => rfl
  | true =>
    by_cases h1 : r < 1
    · simp [h1, outV]
    by_cases h2 : r > 6
    · simp [h1, h2, outV]
    cases hx : empB x with
    | true => simp [h1, h2, outV]
    | false =>
      cases hy : empB y with
      | true => simp [h1, h2, outV]
      | false =>
        have hyx : (isB y && isB x) = true := by rw [Bool.and_comm]; exact hxy
        obtain ⟨s1, s2, s3, s4⟩ := sides r (by omega) (by omega) x y hx hy
        rw [hyx, s1, s2, s3, s4]
        simp [h1, h2, outV]
theorem ownK : ownKnob Try.prog.godebug = none := by kernel_rfl
theorem laidOut : laidOutB Try.prog = true := by kernel_rfl
theorem law (x : DArgs [.int .i64, tI, tI]) : ∃ fb, ex ((evF cx6 keeps 3 12 (avs [.int .i64, tI, tI] x)).bind (finP true)) false ⟨[], 0⟩ ⟨[], []⟩ = some (.bool true, ⟨[], 0⟩, fb) :=
  ev_ex (ok12 x.1 x.2.1 x.2.2.1)
theorem lifted (os : Os) (started : os.Started) (H : Type) (enc : TypeId × Value → H) :
    ReturnsInHanded {} Try.checked os 12 .any (Rows.itvSidesSpec.pre6 enc Try.prog Try.f12 Rows.itvSidesRow.domain false) (Rows.itvSidesSpec.post enc Try.prog Try.f12 false true false false) := by
  refine returnsInHanded_of_change (C := Try.checked) ownK started (by kernel_rfl) Try.func12
    (ChangeSpec.witness6 (enc := enc) (C := Try.checked) false ⟨#[], #[.int .i64 0, .agg #[.int .i64 0, .int .i64 0], .agg #[.int .i64 0, .int .i64 0]], []⟩ 8 (by kernel_rfl) (by kernel_rfl) (by kernel_rfl) (by kernel_rfl)) ?_
  intro W base args ds gs before hval hW _ _
  refine law_calls (tab := tab) (fz := true) (tys := [.int .i64, tI, tI]) (tb := 4) tab_ok laidOut (cal6 12) rfl (by kernel_rfl) rfl (by kernel_rfl) rfl (fun ds hds => ?_) (fun x _ => law x) hval hW
  match ds, hds with
  | [_, _, _], _ => rfl
theorem over : Rows.itvSidesRow.holds Try.pinned (OpenSpec.ofChange Rows.itvSidesSpec) :=
  OpenClaim.holds_of_wide 12 Try.f12 rfl rfl rfl rfl rfl rfl rfl ⟨rfl, rfl, rfl, rfl, rfl⟩ rfl rfl rfl rfl rfl (by kernel_rfl) Try.func12 (by kernel_rfl)
    (of_decide_eq_true (by kernel_rfl)) (by unfold Func.isWrapper; first | (rw [if_pos (by decide +kernel)]; kernel_rfl) | (rw [if_neg (by decide +kernel)]; exact ⟨rfl, rfl⟩))
    (fun os started H enc _ => lifted os started H enc)
end Go.Proofs.Ytcmmchpofkoddaa.Ex
namespace Go.Proofs.Ytcmmchpofkoddaa
theorem itvSides_holds : Rows.ItvSidesSaid := Ex.over
#print axioms itvSides_holds
end Go.Proofs.Ytcmmchpofkoddaa
