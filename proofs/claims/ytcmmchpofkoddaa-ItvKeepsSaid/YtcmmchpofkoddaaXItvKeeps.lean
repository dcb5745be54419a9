/- For every input ItvKeeps returns true, and its arguments read as they did. No condition. -/
import Derived.Test.YtcmmchpofkoddaaXG
import Derived.ProofKit
import Derived.Handed
import Derived.JoinedOf
namespace Go.Proofs.Ytcmmchpofkoddaa.Ex
open Go.Proofs Go.Proofs.Ytcmmchpofkoddaa
set_option maxRecDepth 100000
set_option linter.unusedSimpArgs false
set_option linter.unusedVariables false
def sp6 : Nat → Option (List AV → Prog AV)
  | 31 => some (specP true M31)
  | 20 => some (specP true M20)
  | 39 => some (specP true M39)
  | 51 => some (specP true M51)
  | 37 => some (specP true M37)
  | 38 => some (specP true M38)
  | 29 => some (specP true M29)
  | 23 => some (specP true M23)
  | 33 => some (specP true M33)
  | 58 => some (specP true M58)
  | 26 => some (specP true M26)
  | 27 => some (specP true M27)
  | 34 => some (specP true M34)
  | 24 => some (specP true M24)
  | 28 => some (specP true M28)
  | 57 => some (specP true M57)
  | 25 => some (specP true M25)
  | 21 => some (specP true M21)
  | 22 => some (specP true M22)
  | 41 => some (specP true M41)
  | 59 => some (specP true M59)
  | 50 => some (specP true M50)
  | 16 => some (specP true M16)
  | 35 => some (specP true M35)
  | 47 => some (specP true M47)
  | 52 => some (specP true M52)
  | 60 => some (specP true M60)
  | 55 => some (specP true M55)
  | 42 => some (specP true M42)
  | 43 => some (specP true M43)
  | 56 => some (specP true M56)
  | 40 => some (specP true M40)
  | 53 => some (specP true M53)
  | 49 => some (specP true M49)
  | 54 => some (specP true M54)
  | 30 => some (specP true M30)
  | 45 => some (specP true M45)
  | 17 => some (specP true M17)
  | 18 => some (specP true M18)
  | 19 => some (specP true M19)
  | _ => none
noncomputable def cx6 : Ctx := { tab := tab, spec := sp6, inl := inl, lps := fun _ _ => none, fuel := 10 }
theorem hsp6 : ∀ g p, cx6.spec g = some p → SoundA Try.prog g p := by
  intro g p h
  change sp6 g = some p at h
  unfold sp6 at h
  split at h
  · cases h; exact snd31
  · cases h; exact snd20
  · cases h; exact snd39
  · cases h; exact snd51
  · cases h; exact snd37
  · cases h; exact snd38
  · cases h; exact snd29
  · cases h; exact snd23
  · cases h; exact snd33
  · cases h; exact snd58
  · cases h; exact snd26
  · cases h; exact snd27
  · cases h; exact snd34
  · cases h; exact snd24
  · cases h; exact snd28
  · cases h; exact snd57
  · cases h; exact snd25
  · cases h; exact snd21
  · cases h; exact snd22
  · cases h; exact snd41
  · cases h; exact snd59
  · cases h; exact snd50
  · cases h; exact snd16
  · cases h; exact snd35
  · cases h; exact snd47
  · cases h; exact snd52
  · cases h; exact snd60
  · cases h; exact snd55
  · cases h; exact snd42
  · cases h; exact snd43
  · cases h; exact snd56
  · cases h; exact snd40
  · cases h; exact snd53
  · cases h; exact snd49
  · cases h; exact snd54
  · cases h; exact snd30
  · cases h; exact snd45
  · cases h; exact snd17
  · cases h; exact snd18
  · cases h; exact snd19
  · cases h
theorem in6 : InlOk Try.prog cx6 := ⟨inl_ok, fun _ _ _ _ _ _ _ _ h => nomatch h⟩
theorem cal6 (g : Nat) : SoundA Try.prog g (evF cx6 keeps 3 g) := evF_sound (tabOk_of tab_ok) (cmpsOk_of tab_ok cmps_ok) mixed in6 hsp6 keeps 3 g
open Go.ChangeShapes Go.WideShapes Go.ChangeAt Go.RowKit
theorem raw11 (r : Int) (x : I) (y : I) (n : Int) (m : Int) : ev cx6 11 [aN r, aI x, aI y, aN n, aN m] =
  bif !(Go.Proofs.Ytcmmchpofkoddaa.Ex.isB x && Go.Proofs.Ytcmmchpofkoddaa.Ex.isB y) then Option.some (Go.Proofs.Ytcmmchpofkoddaa.Ex.AV.bool Bool.true, { blks := [], c := 0 })
  else
    bif Go.Proofs.Ytcmmchpofkoddaa.Ex.empB x then Option.some (Go.Proofs.Ytcmmchpofkoddaa.Ex.AV.bool Bool.true, { blks := [], c := 0 })
    else
      bif Go.Proofs.Ytcmmchpofkoddaa.Ex.empB y then Option.some (Go.Proofs.Ytcmmchpofkoddaa.Ex.AV.bool Bool.true, { blks := [], c := 0 })
      else
        bif Decidable.decide (r < 1) then Option.some (Go.Proofs.Ytcmmchpofkoddaa.Ex.AV.bool Bool.true, { blks := [], c := 0 })
        else
          bif Decidable.decide (r > 6) then Option.some (Go.Proofs.Ytcmmchpofkoddaa.Ex.AV.bool Bool.true, { blks := [], c := 0 })
          else
            bif Go.Proofs.Ytcmmchpofkoddaa.Ex.isB x && !Go.Proofs.Ytcmmchpofkoddaa.Ex.empB x then
              bif Go.Proofs.Ytcmmchpofkoddaa.Ex.isB y && !Go.Proofs.Ytcmmchpofkoddaa.Ex.empB y then
                bif Go.Proofs.Ytcmmchpofkoddaa.Ex.isB x && Go.Proofs.Ytcmmchpofkoddaa.Ex.isB y then
                  bif Go.Proofs.Ytcmmchpofkoddaa.Ex.relR r (Go.Proofs.Ytcmmchpofkoddaa.Ex.pickV x n) (Go.Proofs.Ytcmmchpofkoddaa.Ex.pickV y m) then
                    bif !Go.Proofs.Ytcmmchpofkoddaa.Ex.hasB (Go.Proofs.Ytcmmchpofkoddaa.Ex.refI r x y).fst (Go.Proofs.Ytcmmchpofkoddaa.Ex.pickV x n) then Option.some (Go.Proofs.Ytcmmchpofkoddaa.Ex.AV.bool Bool.false, { blks := [], c := 0 })
                    else
                      bif !Go.Proofs.Ytcmmchpofkoddaa.Ex.hasB (Go.Proofs.Ytcmmchpofkoddaa.Ex.refI r x y).snd (Go.Proofs.Ytcmmchpofkoddaa.Ex.pickV y m) then Option.some (Go.Proofs.Ytcmmchpofkoddaa.Ex.AV.bool Bool.false, { blks := [], c := 0 })
                      else
                        bif Go.Proofs.Ytcmmchpofkoddaa.Ex.leqB (Go.Proofs.Ytcmmchpofkoddaa.Ex.refI r x y).fst x then
                          bif Go.Proofs.Ytcmmchpofkoddaa.Ex.leqB (Go.Proofs.Ytcmmchpofkoddaa.Ex.refI r x y).snd y then
                            bif Go.Proofs.Ytcmmchpofkoddaa.Ex.empB (Go.Proofs.Ytcmmchpofkoddaa.Ex.refI r x y).fst == Go.Proofs.Ytcmmchpofkoddaa.Ex.empB (Go.Proofs.Ytcmmchpofkoddaa.Ex.refI r x y).snd then Option.some (Go.Proofs.Ytcmmchpofkoddaa.Ex.AV.bool Bool.true, { blks := [], c := 0 })
                            else Option.some (Go.Proofs.Ytcmmchpofkoddaa.Ex.AV.bool Bool.false, { blks := [], c := 0 })
                          else Option.some (Go.Proofs.Ytcmmchpofkoddaa.Ex.AV.bool Bool.false, { blks := [], c := 0 })
                        else Option.some (Go.Proofs.Ytcmmchpofkoddaa.Ex.AV.bool Bool.false, { blks := [], c := 0 })
                  else
                    bif Go.Proofs.Ytcmmchpofkoddaa.Ex.leqB (Go.Proofs.Ytcmmchpofkoddaa.Ex.refI r x y).fst x then
                      bif Go.Proofs.Ytcmmchpofkoddaa.Ex.leqB (Go.Proofs.Ytcmmchpofkoddaa.Ex.refI r x y).snd y then
                        bif Go.Proofs.Ytcmmchpofkoddaa.Ex.empB (Go.Proofs.Ytcmmchpofkoddaa.Ex.refI r x y).fst == Go.Proofs.Ytcmmchpofkoddaa.Ex.empB (Go.Proofs.Ytcmmchpofkoddaa.Ex.refI r x y).snd then Option.some (Go.Proofs.Ytcmmchpofkoddaa.Ex.AV.bool Bool.true, { blks := [], c := 0 })
                        else Option.some (Go.Proofs.Ytcmmchpofkoddaa.Ex.AV.bool Bool.false, { blks := [], c := 0 })
                      else Option.some (Go.Proofs.Ytcmmchpofkoddaa.Ex.AV.bool Bool.false, { blks := [], c := 0 })
                    else Option.some (Go.Proofs.Ytcmmchpofkoddaa.Ex.AV.bool Bool.false, { blks := [], c := 0 })
                else Option.none
              else Option.none
            else Option.none := by kernel_rfl
theorem emp_iff {a b : Int} : empB (a, b) = true ↔ a > b := by simp [empB]
theorem emp_no {a b : Int} (h : a ≤ b) : empB (a, b) = false := by simp [empB]; omega
theorem emp_yes {a b : Int} (h : a > b) : empB (a, b) = true := emp_iff.2 h
theorem both_if {a b c d e f g k : Int} (hx : a ≤ b) (hy : c ≤ d) : both (a, b) (c, d) (e, f) (g, k) = if e ≤ f ∧ g ≤ k then ((e, f), (g, k)) else (nn, nn) := by
  unfold both
  rw [emp_no hx, emp_no hy]
  by_cases h : e ≤ f ∧ g ≤ k
  · rw [if_pos h, emp_no h.1, emp_no h.2]; rfl
  · rw [if_neg h]
    by_cases h1 : e ≤ f
    · rw [emp_no h1, emp_yes (a := g) (b := k) (by omega)]; rfl
    · rw [emp_yes (a := e) (b := f) (by omega)]; rfl
theorem meet_if {a b c d : Int} (hx : a ≤ b) (hy : c ≤ d) : iMeet (a, b) (c, d) = if a ≤ d ∧ c ≤ b then (mx a c, mn b d) else nn := by
  unfold iMeet
  rw [emp_no hx, emp_no hy]
  simp only [Bool.false_eq_true, if_false]
  by_cases h : a ≤ d ∧ c ≤ b
  · rw [if_pos h, emp_no (by unfold mx mn; omega)]; simp
  · rw [if_neg h, emp_yes (by unfold mx mn; omega)]; simp
theorem join_if {a b c d : Int} (hx : a ≤ b) (hy : c ≤ d) : iJoin (a, b) (c, d) = (mn a c, mx b d) := by
  unfold iJoin
  rw [emp_no hx, emp_no hy]; simp
theorem join_nl {c d : Int} (hy : c ≤ d) : iJoin nn (c, d) = (c, d) := by
  unfold iJoin
  rw [show empB nn = true from rfl, emp_no hy]; simp
theorem join_nr {c d : Int} (hy : c ≤ d) : iJoin (c, d) nn = (c, d) := by
  unfold iJoin
  rw [show empB nn = true from rfl, emp_no hy]; simp
section
variable {a b c d : Int} (hx : a ≤ b) (hy : c ≤ d)
include hx hy
theorem ref1 : refI 1 (a, b) (c, d) = if a < d then ((a, mn b (d - 1)), (mx c (a + 1), d)) else (nn, nn) := by
  unfold refI; simp only [if_true]
  rw [both_if hx hy]
  by_cases h : a < d
  · rw [if_pos h, if_pos (by unfold mx mn; omega)]
  · rw [if_neg h, if_neg (by unfold mx mn; omega)]
theorem ref2 : refI 2 (a, b) (c, d) = if a ≤ d then ((a, mn b d), (mx c a, d)) else (nn, nn) := by
  show both _ _ _ _ = _
  rw [both_if hx hy]
  by_cases h : a ≤ d
  · rw [if_pos h, if_pos (by unfold mx mn; omega)]
  · rw [if_neg h, if_neg (by unfold mx mn; omega)]
theorem ref5 : refI 5 (a, b) (c, d) = if c ≤ b then ((mx a c, b), (c, mn d b)) else (nn, nn) := by
  show both _ _ _ _ = _
  rw [both_if hx hy]
  by_cases h : c ≤ b
  · rw [if_pos h, if_pos (by unfold mx mn; omega)]
  · rw [if_neg h, if_neg (by unfold mx mn; omega)]
theorem ref6 : refI 6 (a, b) (c, d) = if c < b then ((mx a (c + 1), b), (c, mn d (b - 1))) else (nn, nn) := by
  show both _ _ _ _ = _
  rw [both_if hx hy]
  by_cases h : c < b
  · rw [if_pos h, if_pos (by unfold mx mn; omega)]
  · rw [if_neg h, if_neg (by unfold mx mn; omega)]
theorem ref3 : refI 3 (a, b) (c, d) = if a ≤ d ∧ c ≤ b then ((mx a c, mn b d), (mx a c, mn b d)) else (nn, nn) := by
  show both _ _ _ _ = _
  rw [meet_if hx hy]
  by_cases h : a ≤ d ∧ c ≤ b
  · rw [if_pos h, if_pos h, both_if hx hy, if_pos (by unfold mx mn; omega)]
  · rw [if_neg h, if_neg h]; unfold both; simp [show empB nn = true from rfl]
omit hx hy in
theorem wout_eq : wout (a, b) (c, d) = (if c = d ∧ a = c then a + 1 else a, if c = d ∧ a ≠ c ∧ b = c then b - 1 else b) := by
  unfold wout
  by_cases h1 : c = d
  · by_cases h2 : a = c
    · simp [h1, h2]
    · by_cases h3 : b = c
      · simp_all
      · simp_all
  · simp [h1]
theorem ref4 : refI 4 (a, b) (c, d) = if a = b ∧ c = d ∧ a = c then (nn, nn) else ((if c = d ∧ a = c then a + 1 else a, if c = d ∧ a ≠ c ∧ b = c then b - 1 else b), (if a = b ∧ c = a then c + 1 else c, if a = b ∧ c ≠ a ∧ d = a then d - 1 else d)) := by
  show both _ _ _ _ = _
  rw [wout_eq, wout_eq, both_if hx hy]
  by_cases h : a = b ∧ c = d ∧ a = c
  · rw [if_pos h, if_neg (by obtain ⟨rfl, rfl, rfl⟩ := h; simp; try omega)]
  · rw [if_neg h, if_pos (by constructor <;> omega)]
theorem side1 : iJoin (refI 1 (a, b) (c, d)).1 (refI 5 (a, b) (c, d)).1 = (a, b) ∧ iJoin (refI 1 (a, b) (c, d)).2 (refI 5 (a, b) (c, d)).2 = (c, d) := by
  rw [ref1 hx hy, ref5 hx hy]
  by_cases h : a < d <;> by_cases k : c ≤ b
  · rw [if_pos h, if_pos k, join_if (by unfold mn; omega) (by unfold mx; omega), join_if (by unfold mx; omega) (by unfold mn; omega)]
    simp only [Prod.mk.injEq]; unfold mn mx; refine ⟨⟨?_, ?_⟩, ?_, ?_⟩ <;> (first | trivial | ((repeat' split) <;> omega))
  · rw [if_pos h, if_neg k, join_nr (by unfold mn; omega), join_nr (by unfold mx; omega)]
    simp only [Prod.mk.injEq]; unfold mn mx; refine ⟨⟨?_, ?_⟩, ?_, ?_⟩ <;> (first | trivial | ((repeat' split) <;> omega))
  · rw [if_neg h, if_pos k, join_nl (by unfold mx; omega), join_nl (by unfold mn; omega)]
    simp only [Prod.mk.injEq]; unfold mn mx; refine ⟨⟨?_, ?_⟩, ?_, ?_⟩ <;> (first | trivial | ((repeat' split) <;> omega))
  · omega
theorem side2 : iJoin (refI 2 (a, b) (c, d)).1 (refI 6 (a, b) (c, d)).1 = (a, b) ∧ iJoin (refI 2 (a, b) (c, d)).2 (refI 6 (a, b) (c, d)).2 = (c, d) := by
  rw [ref2 hx hy, ref6 hx hy]
  by_cases h : a ≤ d <;> by_cases k : c < b
  · rw [if_pos h, if_pos k, join_if (by unfold mn; omega) (by unfold mx; omega), join_if (by unfold mx; omega) (by unfold mn; omega)]
    simp only [Prod.mk.injEq]; unfold mn mx; refine ⟨⟨?_, ?_⟩, ?_, ?_⟩ <;> (first | trivial | ((repeat' split) <;> omega))
  · rw [if_pos h, if_neg k, join_nr (by unfold mn; omega), join_nr (by unfold mx; omega)]
    simp only [Prod.mk.injEq]; unfold mn mx; refine ⟨⟨?_, ?_⟩, ?_, ?_⟩ <;> (first | trivial | ((repeat' split) <;> omega))
  · rw [if_neg h, if_pos k, join_nl (by unfold mx; omega), join_nl (by unfold mn; omega)]
    simp only [Prod.mk.injEq]; unfold mn mx; refine ⟨⟨?_, ?_⟩, ?_, ?_⟩ <;> (first | trivial | ((repeat' split) <;> omega))
  · omega
theorem side3 : iJoin (refI 3 (a, b) (c, d)).1 (refI 4 (a, b) (c, d)).1 = (a, b) ∧ iJoin (refI 3 (a, b) (c, d)).2 (refI 4 (a, b) (c, d)).2 = (c, d) := by
  rw [ref3 hx hy, ref4 hx hy]
  by_cases h : a ≤ d ∧ c ≤ b <;> by_cases k : a = b ∧ c = d ∧ a = c
  · rw [if_pos h, if_pos k, join_nr (by unfold mn mx; omega)]
    simp only [Prod.mk.injEq]; unfold mn mx; refine ⟨⟨?_, ?_⟩, ?_, ?_⟩ <;> (first | trivial | ((repeat' split) <;> omega))
  · rw [if_pos h, if_neg k, join_if (by unfold mn mx; omega) (by omega), join_if (by unfold mx mn; omega) (by omega)]
    simp only [Prod.mk.injEq]; unfold mn mx; refine ⟨⟨?_, ?_⟩, ?_, ?_⟩ <;> (first | trivial | ((repeat' split) <;> omega))
  · omega
  · rw [if_neg h, if_neg k, join_nl (by omega), join_nl (by omega)]
    simp only [Prod.mk.injEq]; omega
end
theorem join_comm (x y : I) : iJoin x y = iJoin y x := by
  simp only [iJoin, empB, nn, mn, mx, decide_eq_true_eq]
  (repeat' split) <;> simp_all <;> (try omega)
theorem mx_comm (a b : Int) : mx a b = mx b a := by unfold mx; omega
theorem mn_comm (a b : Int) : mn a b = mn b a := by unfold mn; omega
theorem sides (r : Int) (h1 : 1 ≤ r) (h2 : r ≤ 6) (x y : I) (hx : empB x = false) (hy : empB y = false) :
    iJoin (refI r x y).1 (refI (notR r) x y).1 = x ∧ iJoin (refI r x y).2 (refI (notR r) x y).2 = y ∧ (refI (turnR r) y x).2 = (refI r x y).1 ∧ (refI (turnR r) y x).1 = (refI r x y).2 := by
  have hr : r = 1 ∨ r = 2 ∨ r = 3 ∨ r = 4 ∨ r = 5 ∨ r = 6 := by omega
  obtain ⟨a, b⟩ := x
  obtain ⟨c, d⟩ := y
  simp only [empB, decide_eq_false_iff_not] at hx hy
  have hx : a ≤ b := by omega
  have hy : c ≤ d := by omega
  rcases hr with rfl | rfl | rfl | rfl | rfl | rfl
  · refine ⟨(side1 hx hy).1, (side1 hx hy).2, ?_⟩
    show (refI 6 _ _).2 = _ ∧ (refI 6 _ _).1 = _
    rw [ref6 hy hx, ref1 hx hy]; split <;> exact ⟨rfl, rfl⟩
  · refine ⟨(side2 hx hy).1, (side2 hx hy).2, ?_⟩
    show (refI 5 _ _).2 = _ ∧ (refI 5 _ _).1 = _
    rw [ref5 hy hx, ref2 hx hy]; split <;> exact ⟨rfl, rfl⟩
  · refine ⟨(side3 hx hy).1, (side3 hx hy).2, ?_⟩
    show (refI 3 _ _).2 = _ ∧ (refI 3 _ _).1 = _
    rw [ref3 hy hx, ref3 hx hy]
    by_cases h : a ≤ d ∧ c ≤ b
    · rw [if_pos h, if_pos ⟨h.2, h.1⟩, mx_comm c a, mn_comm d b]; exact ⟨rfl, rfl⟩
    · rw [if_neg h, if_neg (fun g => h ⟨g.2, g.1⟩)]; exact ⟨rfl, rfl⟩
  · refine ⟨(join_comm _ _).trans (side3 hx hy).1, (join_comm _ _).trans (side3 hx hy).2, ?_⟩
    show (refI 4 _ _).2 = _ ∧ (refI 4 _ _).1 = _
    rw [ref4 hy hx, ref4 hx hy]
    by_cases h : a = b ∧ c = d ∧ a = c
    · rw [if_pos h, if_pos ⟨h.2.1, h.1, h.2.2.symm⟩]; exact ⟨rfl, rfl⟩
    · rw [if_neg h, if_neg (fun g => h ⟨g.2.1, g.1, g.2.2.symm⟩)]; exact ⟨rfl, rfl⟩
  · refine ⟨(join_comm _ _).trans (side1 hx hy).1, (join_comm _ _).trans (side1 hx hy).2, ?_⟩
    show (refI 2 _ _).2 = _ ∧ (refI 2 _ _).1 = _
    rw [ref2 hy hx, ref5 hx hy]; split <;> exact ⟨rfl, rfl⟩
  · refine ⟨(join_comm _ _).trans (side2 hx hy).1, (join_comm _ _).trans (side2 hx hy).2, ?_⟩
    show (refI 1 _ _).2 = _ ∧ (refI 1 _ _).1 = _
    rw [ref1 hy hx, ref6 hx hy]; split <;> exact ⟨rfl, rfl⟩
/- w lies between two numbers -/
def bt (u v w : Int) : Prop := mn u v ≤ w ∧ w ≤ mx u v
theorem bt_l (u v : Int) : bt u v u := by unfold bt mn mx; constructor <;> split <;> omega
theorem bt_r (u v : Int) : bt u v v := by unfold bt mn mx; constructor <;> split <;> omega
theorem bt_up {u v w : Int} (h : u ≤ w) (k : w ≤ v) : bt u v w := by unfold bt mn mx; constructor <;> split <;> omega
theorem bt_dn {u v w : Int} (h : v ≤ w) (k : w ≤ u) : bt u v w := by unfold bt mn mx; constructor <;> split <;> omega
theorem bt_mul {a b p : Int} (h : a ≤ p) (k : p ≤ b) (q : Int) : bt (a * q) (b * q) (p * q) := by
  by_cases hq : 0 ≤ q
  · exact bt_up (Int.mul_le_mul_of_nonneg_right h hq) (Int.mul_le_mul_of_nonneg_right k hq)
  · exact bt_dn (Int.mul_le_mul_of_nonpos_right k (by omega)) (Int.mul_le_mul_of_nonpos_right h (by omega))
theorem bt_mul' {a b p : Int} (h : a ≤ p) (k : p ≤ b) (q : Int) : bt (q * a) (q * b) (q * p) := by
  rw [Int.mul_comm q a, Int.mul_comm q b, Int.mul_comm q p]; exact bt_mul h k q
theorem four {a b c d u v w : Int} (h1 : bt a b u) (h2 : bt c d v) (h : bt u v w) : mn (mn (mn a b) c) d ≤ w ∧ w ≤ mx (mx (mx a b) c) d := by
  unfold bt mn mx at *
  obtain ⟨h1, h1'⟩ := h1
  obtain ⟨h2, h2'⟩ := h2
  obtain ⟨h, h'⟩ := h
  constructor
  · clear h' h1' h2'; (repeat' split at h1) <;> (repeat' split at h2) <;> (repeat' split at h) <;> (repeat' split) <;> omega
  · clear h h1 h2; (repeat' split at h1') <;> (repeat' split at h2') <;> (repeat' split at h') <;> (repeat' split) <;> omega
theorem mul4_has {x y : I} {p q : Int} (hp : x.1 ≤ p ∧ p ≤ x.2) (hq : y.1 ≤ q ∧ q ≤ y.2) : (mul4 x y).1 ≤ p * q ∧ p * q ≤ (mul4 x y).2 :=
  four (bt_mul' hq.1 hq.2 x.1) (bt_mul' hq.1 hq.2 x.2) (bt_mul hp.1 hp.2 q)
theorem div_up {a b q : Int} (h : a ≤ b) (hq : 0 ≤ q) : a.tdiv q ≤ b.tdiv q := by
  by_cases h0 : q = 0
  · subst h0; simp
  · exact Int.tdiv_le_tdiv (by omega) h
theorem bt_div {a b p : Int} (h : a ≤ p) (k : p ≤ b) (q : Int) : bt (a.tdiv q) (b.tdiv q) (p.tdiv q) := by
  by_cases hq : 0 ≤ q
  · exact bt_up (div_up h hq) (div_up k hq)
  · have e : ∀ n : Int, n.tdiv q = -(n.tdiv (-q)) := fun n => by rw [Int.tdiv_neg]; omega
    rw [e a, e b, e p]
    have := div_up h (q := -q) (by omega)
    have := div_up k (q := -q) (by omega)
    exact bt_dn (by omega) (by omega)
theorem nat_div_dn {p c d : Int} (hp : 0 ≤ p) (hc : 0 < c) (h : c ≤ d) : p.tdiv d ≤ p.tdiv c := by
  rw [Int.tdiv_eq_ediv_of_nonneg hp, Int.tdiv_eq_ediv_of_nonneg hp]
  apply Int.le_ediv_of_mul_le hc
  have h1 : 0 ≤ p / d := Int.ediv_nonneg hp (by omega)
  have h2 : p / d * c ≤ p / d * d := Int.mul_le_mul_of_nonneg_left h h1
  have h3 : p / d * d ≤ p := Int.ediv_mul_le p (by omega)
  omega
theorem neg_div_up {p c d : Int} (hp : p ≤ 0) (hc : 0 < c) (h : c ≤ d) : p.tdiv c ≤ p.tdiv d := by
  have := nat_div_dn (p := -p) (by omega) hc h
  rw [Int.neg_tdiv, Int.neg_tdiv] at this
  omega
theorem bt_div_pos {c d q : Int} (hc : 0 < c) (h : c ≤ q) (k : q ≤ d) (p : Int) : bt (p.tdiv c) (p.tdiv d) (p.tdiv q) := by
  by_cases hp : 0 ≤ p
  · exact bt_dn (nat_div_dn hp (by omega) k) (nat_div_dn hp hc h)
  · exact bt_up (neg_div_up (by omega) hc h) (neg_div_up (by omega) (by omega) k)
theorem bt_div' {c d q : Int} (hc : 0 < c ∨ d < 0) (h : c ≤ q) (k : q ≤ d) (p : Int) : bt (p.tdiv c) (p.tdiv d) (p.tdiv q) := by
  rcases hc with hc | hc
  · exact bt_div_pos hc h k p
  · have := bt_div_pos (c := -d) (d := -c) (q := -q) (by omega) (by omega) (by omega) p
    rw [Int.tdiv_neg, Int.tdiv_neg, Int.tdiv_neg] at this
    unfold bt mn mx at *
    obtain ⟨h1, h2⟩ := this
    constructor
    · clear h1; (repeat' split at h2) <;> (repeat' split) <;> omega
    · clear h2; (repeat' split at h1) <;> (repeat' split) <;> omega
theorem div4_has {x y : I} {p q : Int} (hc : 0 < y.1 ∨ y.2 < 0) (hp : x.1 ≤ p ∧ p ≤ x.2) (hq : y.1 ≤ q ∧ q ≤ y.2) : (div4 x y).1 ≤ p.tdiv q ∧ p.tdiv q ≤ (div4 x y).2 :=
  four (bt_div' hc hq.1 hq.2 x.1) (bt_div' hc hq.1 hq.2 x.2) (bt_div hp.1 hp.2 q)
theorem pick_has {x : I} (h : x.1 ≤ x.2) (n : Int) : x.1 ≤ pickV x n ∧ pickV x n ≤ x.2 := by
  unfold pickV
  generalize hs : x.2 - x.1 + 1 = s
  have hs0 : 0 < s := by omega
  have h1 : -s < n.tmod s := by
    by_cases hn : 0 ≤ n
    · have := Int.tmod_nonneg s hn; omega
    · have := Int.tmod_lt_of_pos (-n) hs0
      rw [Int.neg_tmod] at this
      omega
  have h2 := Int.tmod_nonneg s (show 0 ≤ n.tmod s + s by omega)
  have h3 := Int.tmod_lt_of_pos (n.tmod s + s) hs0
  omega
set_option maxRecDepth 100000
theorem has_iff {a b n : Int} : hasB (a, b) n = true ↔ a ≤ n ∧ n ≤ b := by simp [hasB]
theorem leq_nn (y : I) : leqB nn y = true := rfl
theorem leq_of {a b c d : Int} (h : c ≤ a) (k : b ≤ d) : leqB (a, b) (c, d) = true := by simp [leqB]; omega
def goodK (a b c d : Int) (u : I × I) (holds : Prop) (p q : Int) : Prop :=
  (holds → hasB u.1 p = true ∧ hasB u.2 q = true) ∧ leqB u.1 (a, b) = true ∧ leqB u.2 (c, d) = true ∧ empB u.1 = empB u.2
theorem good_nn {a b c d : Int} {holds : Prop} {p q : Int} (h : ¬ holds) : goodK a b c d (nn, nn) holds p q := ⟨fun k => absurd k h, rfl, rfl, rfl⟩
theorem good_mk {a b c d e f g k : Int} {holds : Prop} {p q : Int} (h1 : holds → (e ≤ p ∧ p ≤ f) ∧ g ≤ q ∧ q ≤ k) (h2 : a ≤ e ∧ f ≤ b ∧ c ≤ g ∧ k ≤ d) (h3 : e ≤ f ∧ g ≤ k) : goodK a b c d ((e, f), (g, k)) holds p q :=
  ⟨fun h => ⟨has_iff.2 (h1 h).1, has_iff.2 (h1 h).2⟩, leq_of h2.1 h2.2.1, leq_of h2.2.2.1 h2.2.2.2, by rw [emp_no h3.1, emp_no h3.2]⟩
theorem keeps_ref (r : Int) (h1 : 1 ≤ r) (h2 : r ≤ 6) {a b c d p q : Int} (hx : a ≤ b) (hy : c ≤ d) (hp : a ≤ p ∧ p ≤ b) (hq : c ≤ q ∧ q ≤ d) :
    goodK a b c d (refI r (a, b) (c, d)) (relR r p q = true) p q := by
  have hr : r = 1 ∨ r = 2 ∨ r = 3 ∨ r = 4 ∨ r = 5 ∨ r = 6 := by omega
  rcases hr with rfl | rfl | rfl | rfl | rfl | rfl
  · rw [show relR 1 p q = decide (p < q) from rfl, ref1 hx hy]
    simp only [decide_eq_true_eq]
    split
    · exact good_mk (by unfold mn mx; omega) (by unfold mn mx; omega) (by unfold mn mx; omega)
    · exact good_nn (by omega)
  · rw [show relR 2 p q = decide (p ≤ q) from rfl, ref2 hx hy]
    simp only [decide_eq_true_eq]
    split
    · exact good_mk (by unfold mn mx; omega) (by unfold mn mx; omega) (by unfold mn mx; omega)
    · exact good_nn (by omega)
  · rw [show relR 3 p q = (p == q) from rfl, ref3 hx hy]
    simp only [beq_iff_eq]
    split
    · exact good_mk (by unfold mn mx; omega) (by unfold mn mx; omega) (by unfold mn mx; omega)
    · exact good_nn (by omega)
  · rw [show relR 4 p q = (p != q) from rfl, ref4 hx hy]
    simp only [bne_iff_ne]
    split
    · exact good_nn (by omega)
    · exact good_mk (by omega) (by omega) (by omega)
  · rw [show relR 5 p q = decide (p ≥ q) from rfl, ref5 hx hy]
    simp only [decide_eq_true_eq]
    split
    · exact good_mk (by unfold mn mx; omega) (by unfold mn mx; omega) (by unfold mn mx; omega)
    · exact good_nn (by omega)
  · rw [show relR 6 p q = decide (p > q) from rfl, ref6 hx hy]
    simp only [decide_eq_true_eq]
    split
    · exact good_mk (by unfold mn mx; omega) (by unfold mn mx; omega) (by unfold mn mx; omega)
    · exact good_nn (by omega)
theorem le_of_emp {x : I} (h : empB x = false) : x.1 ≤ x.2 := by simp only [empB, decide_eq_false_iff_not] at h; omega
theorem ok11 (r : Int) (x : I) (y : I) (n : Int) (m : Int) : ev cx6 11 [aN r, aI x, aI y, aN n, aN m] = outV (.bool true) := by
  rw [raw11]
  cases hX : isB x with
  | false => rfl
  | true =>
  cases hY : isB y with
  | false => rfl
  | true =>
  cases hx : empB x with
  | true => rfl
  | false =>
  cases hy : empB y with
  | true => rfl
  | false =>
  by_cases h1 : r < 1
  · simp [h1, outV]
  by_cases h2 : r > 6
  · simp [h1, h2, outV]
  have kx := le_of_emp hx
  have ky := le_of_emp hy
  obtain ⟨g1, g2, g3, g4⟩ := keeps_ref r (by omega) (by omega) kx ky (pick_has kx n) (pick_has ky m)
  simp only [show ((x.1, x.2) : I) = x from rfl, show ((y.1, y.2) : I) = y from rfl] at g1 g2 g3 g4
  rw [g2, g3, g4]
  cases hr : relR r (pickV x n) (pickV y m) with
  | false => simp [h1, h2, outV]
  | true =>
    obtain ⟨e1, e2⟩ := g1 hr
    rw [e1, e2]
    simp [h1, h2, outV]
theorem ownK : ownKnob Try.prog.godebug = none := by kernel_rfl
theorem laidOut : laidOutB Try.prog = true := by kernel_rfl
theorem law (x : DArgs [.int .i64, tI, tI, .int .i64, .int .i64]) : ∃ fb, ex ((evF cx6 keeps 3 11 (avs [.int .i64, tI, tI, .int .i64, .int .i64] x)).bind (finP true)) false ⟨[], 0⟩ ⟨[], []⟩ = some (.bool true, ⟨[], 0⟩, fb) :=
  ev_ex (ok11 x.1 x.2.1 x.2.2.1 x.2.2.2.1 x.2.2.2.2.1)
theorem lifted (os : Os) (started : os.Started) (H : Type) (enc : TypeId × Value → H) :
    ReturnsInHanded {} Try.checked os 11 .any (Rows.itvKeepsSpec.pre6 enc Try.prog Try.f11 Rows.itvKeepsRow.domain false) (Rows.itvKeepsSpec.post enc Try.prog Try.f11 false true false false) := by
  refine returnsInHanded_of_change (C := Try.checked) ownK started (by kernel_rfl) Try.func11
    (ChangeSpec.witness6 (enc := enc) (C := Try.checked) false ⟨#[], #[.int .i64 0, .agg #[.int .i64 0, .int .i64 0], .agg #[.int .i64 0, .int .i64 0], .int .i64 0, .int .i64 0], []⟩ 8 (by kernel_rfl) (by kernel_rfl) (by kernel_rfl) (by kernel_rfl)) ?_
  intro W base args ds gs before hval hW _ _
  refine law_calls (tab := tab) (fz := true) (tys := [.int .i64, tI, tI, .int .i64, .int .i64]) (tb := 4) tab_ok laidOut (cal6 11) rfl (by kernel_rfl) rfl (by kernel_rfl) rfl (fun ds hds => ?_) (fun x _ => law x) hval hW
  match ds, hds with
  | [_, _, _, _, _], _ => rfl
theorem over : Rows.itvKeepsRow.holds Try.pinned (OpenSpec.ofChange Rows.itvKeepsSpec) :=
  OpenClaim.holds_of_wide 11 Try.f11 rfl rfl rfl rfl rfl rfl rfl ⟨rfl, rfl, rfl, rfl, rfl⟩ rfl rfl rfl rfl rfl (by kernel_rfl) Try.func11 (by kernel_rfl)
    (of_decide_eq_true (by kernel_rfl)) (by unfold Func.isWrapper; first | (rw [if_pos (by decide +kernel)]; kernel_rfl) | (rw [if_neg (by decide +kernel)]; exact ⟨rfl, rfl⟩))
    (fun os started H enc _ => lifted os started H enc)
end Go.Proofs.Ytcmmchpofkoddaa.Ex
namespace Go.Proofs.Ytcmmchpofkoddaa
theorem itvKeeps_holds : Rows.ItvKeepsSaid := Ex.over
#print axioms itvKeeps_holds
end Go.Proofs.Ytcmmchpofkoddaa
