/- For every input ItvTight returns true, and its arguments read as they did. No condition. -/
import Derived.Test.YtcmmchpofkoddaaXJ
import Derived.ProofKit
import Derived.Handed
import Derived.JoinedOf
namespace Go.Proofs.Ytcmmchpofkoddaa.Ex
open Go.Proofs Go.Proofs.Ytcmmchpofkoddaa
set_option maxRecDepth 100000
set_option linter.unusedSimpArgs false
set_option linter.unusedVariables false
def spb : Nat → Option (List AV → Prog AV)
  | 31 => some (specP true M31)
  | 20 => some (specP true M20)
  | 39 => some (specP true M39)
  | 51 => some (specP true M51)
  | 37 => some (specP true M37)
  | 38 => some (specP true M38)
  | 29 => some (specP true M29)
  | 23 => some (specP true M23)
  | 33 => some (specP true M33)
  | 58 => some (specP true M58)
  | 26 => some (specP true M26)
  | 27 => some (specP true M27)
  | 34 => some (specP true M34)
  | 24 => some (specP true M24)
  | 28 => some (specP true M28)
  | 57 => some (specP true M57)
  | 25 => some (specP true M25L)
  | 21 => some (specP true M21)
  | 22 => some (specP true M22)
  | 41 => some (specP true M41)
  | 59 => some (specP true M59)
  | 50 => some (specP true M50)
  | 16 => some (specP true M16)
  | 35 => some (specP true M35)
  | 47 => some (specP true M47)
  | 52 => some (specP true M52)
  | 60 => some (specP true M60)
  | 55 => some (specP true M55)
  | 42 => some (specP true M42)
  | 43 => some (specP true M43)
  | 56 => some (specP true M56)
  | 40 => some (specP true M40)
  | 53 => some (specP true M53)
  | 49 => some (specP true M49)
  | 54 => some (specP true M54)
  | 45 => some (specP true M45)
  | 17 => some (specP true M17)
  | 18 => some (specP true M18)
  | 19 => some (specP true M19)
  | 30 => some (specP true M30L)
  | 36 => some (specP true M36L)
  | 44 => some (specP true M44L)
  | 46 => some (specP true M46L)
  | 32 => some (specP true M32)
  | _ => none
noncomputable def lpb : Nat → Nat → Option (Nat → Tm → Prog (Nat × Tm))
  | 7, 0 => some lpL7o
  | _, _ => none
noncomputable def cxb : Ctx := { tab := tab, spec := spb, inl := inl, lps := lpb, fuel := 10 }
theorem hspb : ∀ g p, cxb.spec g = some p → SoundA Try.prog g p := by
  intro g p h
  change spb g = some p at h
  unfold spb at h
  split at h
  · cases h; exact snd31
  · cases h; exact snd20
  · cases h; exact snd39
  · cases h; exact snd51
  · cases h; exact snd37
  · cases h; exact snd38
  · cases h; exact snd29
  · cases h; exact snd23
  · cases h; exact snd33
  · cases h; exact snd58
  · cases h; exact snd26
  · cases h; exact snd27
  · cases h; exact snd34
  · cases h; exact snd24
  · cases h; exact snd28
  · cases h; exact snd57
  · cases h; exact snd25L
  · cases h; exact snd21
  · cases h; exact snd22
  · cases h; exact snd41
  · cases h; exact snd59
  · cases h; exact snd50
  · cases h; exact snd16
  · cases h; exact snd35
  · cases h; exact snd47
  · cases h; exact snd52
  · cases h; exact snd60
  · cases h; exact snd55
  · cases h; exact snd42
  · cases h; exact snd43
  · cases h; exact snd56
  · cases h; exact snd40
  · cases h; exact snd53
  · cases h; exact snd49
  · cases h; exact snd54
  · cases h; exact snd45
  · cases h; exact snd17
  · cases h; exact snd18
  · cases h; exact snd19
  · cases h; exact snd30L
  · cases h; exact snd36L
  · cases h; exact snd44L
  · cases h; exact snd46L
  · cases h; exact snd32
  · cases h
theorem inb : InlOk Try.prog cxb := ⟨inl_ok, fun g fn c hg hb q hq p hp => by
  change lpb g q.1 = some p at hp
  change inl g = some fn at hg
  generalize hq1 : q.1 = b at hp
  unfold lpb at hp
  split at hp
  · cases hp; exact lps_case (inl := inl) hg hb hq hq1 (by kernel_rfl) (by kernel_rfl) sndL7o
  · cases hp⟩
theorem calb (g : Nat) : SoundA Try.prog g (evF cxb keeps 3 g) := evF_sound (tabOk_of tab_ok) (cmpsOk_of tab_ok cmps_ok) mixed inb hspb keeps 3 g
open Go.ChangeShapes Go.WideShapes Go.ChangeAt Go.RowKit
theorem raw7 (op : Int) (x : I) (y : I) : ev cxb 7 [aN op, aI x, aI y] =
  bif !(Go.Proofs.Ytcmmchpofkoddaa.Ex.isB x && Go.Proofs.Ytcmmchpofkoddaa.Ex.isB y) then Option.some (Go.Proofs.Ytcmmchpofkoddaa.Ex.AV.bool Bool.true, { blks := [], c := 0 })
  else
    bif Go.Proofs.Ytcmmchpofkoddaa.Ex.empB x then Option.some (Go.Proofs.Ytcmmchpofkoddaa.Ex.AV.bool Bool.true, { blks := [], c := 0 })
    else
      bif Go.Proofs.Ytcmmchpofkoddaa.Ex.empB y then Option.some (Go.Proofs.Ytcmmchpofkoddaa.Ex.AV.bool Bool.true, { blks := [], c := 0 })
      else
        bif Decidable.decide (op < 1) then Option.some (Go.Proofs.Ytcmmchpofkoddaa.Ex.AV.bool Bool.true, { blks := [], c := 0 })
        else
          bif Decidable.decide (op > 3) then Option.some (Go.Proofs.Ytcmmchpofkoddaa.Ex.AV.bool Bool.true, { blks := [], c := 0 })
          else
            bif Go.Proofs.Ytcmmchpofkoddaa.Ex.isB x && Go.Proofs.Ytcmmchpofkoddaa.Ex.isB y then
              bif (Go.Proofs.Ytcmmchpofkoddaa.Ex.doI op x y).snd.fst then Option.some (Go.Proofs.Ytcmmchpofkoddaa.Ex.AV.bool Bool.true, { blks := [], c := 0 })
              else
                bif (Go.Proofs.Ytcmmchpofkoddaa.Ex.vL7o op x y (Go.Proofs.Ytcmmchpofkoddaa.Ex.doI op x y).fst [x.fst, x.snd] (Bool.false, Bool.false)).fst then
                  bif (Go.Proofs.Ytcmmchpofkoddaa.Ex.vL7o op x y (Go.Proofs.Ytcmmchpofkoddaa.Ex.doI op x y).fst [x.fst, x.snd] (Bool.false, Bool.false)).snd then Option.some (Go.Proofs.Ytcmmchpofkoddaa.Ex.AV.bool Bool.true, { blks := [], c := 0 })
                  else Option.some (Go.Proofs.Ytcmmchpofkoddaa.Ex.AV.bool Bool.false, { blks := [], c := 0 })
                else Option.some (Go.Proofs.Ytcmmchpofkoddaa.Ex.AV.bool Bool.false, { blks := [], c := 0 })
            else Option.none := by kernel_rfl
theorem emp_iff {a b : Int} : empB (a, b) = true ↔ a > b := by simp [empB]
theorem emp_no {a b : Int} (h : a ≤ b) : empB (a, b) = false := by simp [empB]; omega
theorem emp_yes {a b : Int} (h : a > b) : empB (a, b) = true := emp_iff.2 h
theorem both_if {a b c d e f g k : Int} (hx : a ≤ b) (hy : c ≤ d) : both (a, b) (c, d) (e, f) (g, k) = if e ≤ f ∧ g ≤ k then ((e, f), (g, k)) else (nn, nn) := by
  unfold both
  rw [emp_no hx, emp_no hy]
  by_cases h : e ≤ f ∧ g ≤ k
  · rw [if_pos h, emp_no h.1, emp_no h.2]; rfl
  · rw [if_neg h]
    by_cases h1 : e ≤ f
    · rw [emp_no h1, emp_yes (a := g) (b := k) (by omega)]; rfl
    · rw [emp_yes (a := e) (b := f) (by omega)]; rfl
theorem meet_if {a b c d : Int} (hx : a ≤ b) (hy : c ≤ d) : iMeet (a, b) (c, d) = if a ≤ d ∧ c ≤ b then (mx a c, mn b d) else nn := by
  unfold iMeet
  rw [emp_no hx, emp_no hy]
  simp only [Bool.false_eq_true, if_false]
  by_cases h : a ≤ d ∧ c ≤ b
  · rw [if_pos h, emp_no (by unfold mx mn; omega)]; simp
  · rw [if_neg h, emp_yes (by unfold mx mn; omega)]; simp
theorem join_if {a b c d : Int} (hx : a ≤ b) (hy : c ≤ d) : iJoin (a, b) (c, d) = (mn a c, mx b d) := by
  unfold iJoin
  rw [emp_no hx, emp_no hy]; simp
theorem join_nl {c d : Int} (hy : c ≤ d) : iJoin nn (c, d) = (c, d) := by
  unfold iJoin
  rw [show empB nn = true from rfl, emp_no hy]; simp
theorem join_nr {c d : Int} (hy : c ≤ d) : iJoin (c, d) nn = (c, d) := by
  unfold iJoin
  rw [show empB nn = true from rfl, emp_no hy]; simp
section
variable {a b c d : Int} (hx : a ≤ b) (hy : c ≤ d)
include hx hy
theorem ref1 : refI 1 (a, b) (c, d) = if a < d then ((a, mn b (d - 1)), (mx c (a + 1), d)) else (nn, nn) := by
  unfold refI; simp only [if_true]
  rw [both_if hx hy]
  by_cases h : a < d
  · rw [if_pos h, if_pos (by unfold mx mn; omega)]
  · rw [if_neg h, if_neg (by unfold mx mn; omega)]
theorem ref2 : refI 2 (a, b) (c, d) = if a ≤ d then ((a, mn b d), (mx c a, d)) else (nn, nn) := by
  show both _ _ _ _ = _
  rw [both_if hx hy]
  by_cases h : a ≤ d
  · rw [if_pos h, if_pos (by unfold mx mn; omega)]
  · rw [if_neg h, if_neg (by unfold mx mn; omega)]
theorem ref5 : refI 5 (a, b) (c, d) = if c ≤ b then ((mx a c, b), (c, mn d b)) else (nn, nn) := by
  show both _ _ _ _ = _
  rw [both_if hx hy]
  by_cases h : c ≤ b
  · rw [if_pos h, if_pos (by unfold mx mn; omega)]
  · rw [if_neg h, if_neg (by unfold mx mn; omega)]
theorem ref6 : refI 6 (a, b) (c, d) = if c < b then ((mx a (c + 1), b), (c, mn d (b - 1))) else (nn, nn) := by
  show both _ _ _ _ = _
  rw [both_if hx hy]
  by_cases h : c < b
  · rw [if_pos h, if_pos (by unfold mx mn; omega)]
  · rw [if_neg h, if_neg (by unfold mx mn; omega)]
theorem ref3 : refI 3 (a, b) (c, d) = if a ≤ d ∧ c ≤ b then ((mx a c, mn b d), (mx a c, mn b d)) else (nn, nn) := by
  show both _ _ _ _ = _
  rw [meet_if hx hy]
  by_cases h : a ≤ d ∧ c ≤ b
  · rw [if_pos h, if_pos h, both_if hx hy, if_pos (by unfold mx mn; omega)]
  · rw [if_neg h, if_neg h]; unfold both; simp [show empB nn = true from rfl]
omit hx hy in
theorem wout_eq : wout (a, b) (c, d) = (if c = d ∧ a = c then a + 1 else a, if c = d ∧ a ≠ c ∧ b = c then b - 1 else b) := by
  unfold wout
  by_cases h1 : c = d
  · by_cases h2 : a = c
    · simp [h1, h2]
    · by_cases h3 : b = c
      · simp_all
      · simp_all
  · simp [h1]
theorem ref4 : refI 4 (a, b) (c, d) = if a = b ∧ c = d ∧ a = c then (nn, nn) else ((if c = d ∧ a = c then a + 1 else a, if c = d ∧ a ≠ c ∧ b = c then b - 1 else b), (if a = b ∧ c = a then c + 1 else c, if a = b ∧ c ≠ a ∧ d = a then d - 1 else d)) := by
  show both _ _ _ _ = _
  rw [wout_eq, wout_eq, both_if hx hy]
  by_cases h : a = b ∧ c = d ∧ a = c
  · rw [if_pos h, if_neg (by obtain ⟨rfl, rfl, rfl⟩ := h; simp; try omega)]
  · rw [if_neg h, if_pos (by constructor <;> omega)]
theorem side1 : iJoin (refI 1 (a, b) (c, d)).1 (refI 5 (a, b) (c, d)).1 = (a, b) ∧ iJoin (refI 1 (a, b) (c, d)).2 (refI 5 (a, b) (c, d)).2 = (c, d) := by
  rw [ref1 hx hy, ref5 hx hy]
  by_cases h : a < d <;> by_cases k : c ≤ b
  · rw [if_pos h, if_pos k, join_if (by unfold mn; omega) (by unfold mx; omega), join_if (by unfold mx; omega) (by unfold mn; omega)]
    simp only [Prod.mk.injEq]; unfold mn mx; refine ⟨⟨?_, ?_⟩, ?_, ?_⟩ <;> (first | trivial | ((repeat' split) <;> omega))
  · rw [if_pos h, if_neg k, join_nr (by unfold mn; omega), join_nr (by unfold mx; omega)]
    simp only [Prod.mk.injEq]; unfold mn mx; refine ⟨⟨?_, ?_⟩, ?_, ?_⟩ <;> (first | trivial | ((repeat' split) <;> omega))
  · rw [if_neg h, if_pos k, join_nl (by unfold mx; omega), join_nl (by unfold mn; omega)]
    simp only [Prod.mk.injEq]; unfold mn mx; refine ⟨⟨?_, ?_⟩, ?_, ?_⟩ <;> (first | trivial | ((repeat' split) <;> omega))
  · omega
theorem side2 : iJoin (refI 2 (a, b) (c, d)).1 (refI 6 (a, b) (c, d)).1 = (a, b) ∧ iJoin (refI 2 (a, b) (c, d)).2 (refI 6 (a, b) (c, d)).2 = (c, d) := by
  rw [ref2 hx hy, ref6 hx hy]
  by_cases h : a ≤ d <;> by_cases k : c < b
  · rw [if_pos h, if_pos k, join_if (by unfold mn; omega) (by unfold mx; omega), join_if (by unfold mx; omega) (by unfold mn; omega)]
    simp only [Prod.mk.injEq]; unfold mn mx; refine ⟨⟨?_, ?_⟩, ?_, ?_⟩ <;> (first | trivial | ((repeat' split) <;> omega))
  · rw [if_pos h, if_neg k, join_nr (by unfold mn; omega), join_nr (by unfold mx; omega)]
    simp only [Prod.mk.injEq]; unfold mn mx; refine ⟨⟨?_, ?_⟩, ?_, ?_⟩ <;> (first | trivial | ((repeat' split) <;> omega))
  · rw [if_neg h, if_pos k, join_nl (by unfold mx; omega), join_nl (by unfold mn; omega)]
    simp only [Prod.mk.injEq]; unfold mn mx; refine ⟨⟨?_, ?_⟩, ?_, ?_⟩ <;> (first | trivial | ((repeat' split) <;> omega))
  · omega
theorem side3 : iJoin (refI 3 (a, b) (c, d)).1 (refI 4 (a, b) (c, d)).1 = (a, b) ∧ iJoin (refI 3 (a, b) (c, d)).2 (refI 4 (a, b) (c, d)).2 = (c, d) := by
  rw [ref3 hx hy, ref4 hx hy]
  by_cases h : a ≤ d ∧ c ≤ b <;> by_cases k : a = b ∧ c = d ∧ a = c
  · rw [if_pos h, if_pos k, join_nr (by unfold mn mx; omega)]
    simp only [Prod.mk.injEq]; unfold mn mx; refine ⟨⟨?_, ?_⟩, ?_, ?_⟩ <;> (first | trivial | ((repeat' split) <;> omega))
  · rw [if_pos h, if_neg k, join_if (by unfold mn mx; omega) (by omega), join_if (by unfold mx mn; omega) (by omega)]
    simp only [Prod.mk.injEq]; unfold mn mx; refine ⟨⟨?_, ?_⟩, ?_, ?_⟩ <;> (first | trivial | ((repeat' split) <;> omega))
  · omega
  · rw [if_neg h, if_neg k, join_nl (by omega), join_nl (by omega)]
    simp only [Prod.mk.injEq]; omega
end
theorem join_comm (x y : I) : iJoin x y = iJoin y x := by
  simp only [iJoin, empB, nn, mn, mx, decide_eq_true_eq]
  (repeat' split) <;> simp_all <;> (try omega)
theorem mx_comm (a b : Int) : mx a b = mx b a := by unfold mx; omega
theorem mn_comm (a b : Int) : mn a b = mn b a := by unfold mn; omega
theorem sides (r : Int) (h1 : 1 ≤ r) (h2 : r ≤ 6) (x y : I) (hx : empB x = false) (hy : empB y = false) :
    iJoin (refI r x y).1 (refI (notR r) x y).1 = x ∧ iJoin (refI r x y).2 (refI (notR r) x y).2 = y ∧ (refI (turnR r) y x).2 = (refI r x y).1 ∧ (refI (turnR r) y x).1 = (refI r x y).2 := by
  have hr : r = 1 ∨ r = 2 ∨ r = 3 ∨ r = 4 ∨ r = 5 ∨ r = 6 := by omega
  obtain ⟨a, b⟩ := x
  obtain ⟨c, d⟩ := y
  simp only [empB, decide_eq_false_iff_not] at hx hy
  have hx : a ≤ b := by omega
  have hy : c ≤ d := by omega
  rcases hr with rfl | rfl | rfl | rfl | rfl | rfl
  · refine ⟨(side1 hx hy).1, (side1 hx hy).2, ?_⟩
    show (refI 6 _ _).2 = _ ∧ (refI 6 _ _).1 = _
    rw [ref6 hy hx, ref1 hx hy]; split <;> exact ⟨rfl, rfl⟩
  · refine ⟨(side2 hx hy).1, (side2 hx hy).2, ?_⟩
    show (refI 5 _ _).2 = _ ∧ (refI 5 _ _).1 = _
    rw [ref5 hy hx, ref2 hx hy]; split <;> exact ⟨rfl, rfl⟩
  · refine ⟨(side3 hx hy).1, (side3 hx hy).2, ?_⟩
    show (refI 3 _ _).2 = _ ∧ (refI 3 _ _).1 = _
    rw [ref3 hy hx, ref3 hx hy]
    by_cases h : a ≤ d ∧ c ≤ b
    · rw [if_pos h, if_pos ⟨h.2, h.1⟩, mx_comm c a, mn_comm d b]; exact ⟨rfl, rfl⟩
    · rw [if_neg h, if_neg (fun g => h ⟨g.2, g.1⟩)]; exact ⟨rfl, rfl⟩
  · refine ⟨(join_comm _ _).trans (side3 hx hy).1, (join_comm _ _).trans (side3 hx hy).2, ?_⟩
    show (refI 4 _ _).2 = _ ∧ (refI 4 _ _).1 = _
    rw [ref4 hy hx, ref4 hx hy]
    by_cases h : a = b ∧ c = d ∧ a = c
    · rw [if_pos h, if_pos ⟨h.2.1, h.1, h.2.2.symm⟩]; exact ⟨rfl, rfl⟩
    · rw [if_neg h, if_neg (fun g => h ⟨g.2.1, g.1, g.2.2.symm⟩)]; exact ⟨rfl, rfl⟩
  · refine ⟨(join_comm _ _).trans (side1 hx hy).1, (join_comm _ _).trans (side1 hx hy).2, ?_⟩
    show (refI 2 _ _).2 = _ ∧ (refI 2 _ _).1 = _
    rw [ref2 hy hx, ref5 hx hy]; split <;> exact ⟨rfl, rfl⟩
  · refine ⟨(join_comm _ _).trans (side2 hx hy).1, (join_comm _ _).trans (side2 hx hy).2, ?_⟩
    show (refI 1 _ _).2 = _ ∧ (refI 1 _ _).1 = _
    rw [ref1 hy hx, ref6 hx hy]; split <;> exact ⟨rfl, rfl⟩
/- w lies between two numbers -/
def bt (u v w : Int) : Prop := mn u v ≤ w ∧ w ≤ mx u v
theorem bt_l (u v : Int) : bt u v u := by unfold bt mn mx; constructor <;> split <;> omega
theorem bt_r (u v : Int) : bt u v v := by unfold bt mn mx; constructor <;> split <;> omega
theorem bt_up {u v w : Int} (h : u ≤ w) (k : w ≤ v) : bt u v w := by unfold bt mn mx; constructor <;> split <;> omega
theorem bt_dn {u v w : Int} (h : v ≤ w) (k : w ≤ u) : bt u v w := by unfold bt mn mx; constructor <;> split <;> omega
theorem bt_mul {a b p : Int} (h : a ≤ p) (k : p ≤ b) (q : Int) : bt (a * q) (b * q) (p * q) := by
  by_cases hq : 0 ≤ q
  · exact bt_up (Int.mul_le_mul_of_nonneg_right h hq) (Int.mul_le_mul_of_nonneg_right k hq)
  · exact bt_dn (Int.mul_le_mul_of_nonpos_right k (by omega)) (Int.mul_le_mul_of_nonpos_right h (by omega))
theorem bt_mul' {a b p : Int} (h : a ≤ p) (k : p ≤ b) (q : Int) : bt (q * a) (q * b) (q * p) := by
  rw [Int.mul_comm q a, Int.mul_comm q b, Int.mul_comm q p]; exact bt_mul h k q
theorem four {a b c d u v w : Int} (h1 : bt a b u) (h2 : bt c d v) (h : bt u v w) : mn (mn (mn a b) c) d ≤ w ∧ w ≤ mx (mx (mx a b) c) d := by
  unfold bt mn mx at *
  obtain ⟨h1, h1'⟩ := h1
  obtain ⟨h2, h2'⟩ := h2
  obtain ⟨h, h'⟩ := h
  constructor
  · clear h' h1' h2'; (repeat' split at h1) <;> (repeat' split at h2) <;> (repeat' split at h) <;> (repeat' split) <;> omega
  · clear h h1 h2; (repeat' split at h1') <;> (repeat' split at h2') <;> (repeat' split at h') <;> (repeat' split) <;> omega
theorem mul4_has {x y : I} {p q : Int} (hp : x.1 ≤ p ∧ p ≤ x.2) (hq : y.1 ≤ q ∧ q ≤ y.2) : (mul4 x y).1 ≤ p * q ∧ p * q ≤ (mul4 x y).2 :=
  four (bt_mul' hq.1 hq.2 x.1) (bt_mul' hq.1 hq.2 x.2) (bt_mul hp.1 hp.2 q)
theorem div_up {a b q : Int} (h : a ≤ b) (hq : 0 ≤ q) : a.tdiv q ≤ b.tdiv q := by
  by_cases h0 : q = 0
  · subst h0; simp
  · exact Int.tdiv_le_tdiv (by omega) h
theorem bt_div {a b p : Int} (h : a ≤ p) (k : p ≤ b) (q : Int) : bt (a.tdiv q) (b.tdiv q) (p.tdiv q) := by
  by_cases hq : 0 ≤ q
  · exact bt_up (div_up h hq) (div_up k hq)
  · have e : ∀ n : Int, n.tdiv q = -(n.tdiv (-q)) := fun n => by rw [Int.tdiv_neg]; omega
    rw [e a, e b, e p]
    have := div_up h (q := -q) (by omega)
    have := div_up k (q := -q) (by omega)
    exact bt_dn (by omega) (by omega)
theorem nat_div_dn {p c d : Int} (hp : 0 ≤ p) (hc : 0 < c) (h : c ≤ d) : p.tdiv d ≤ p.tdiv c := by
  rw [Int.tdiv_eq_ediv_of_nonneg hp, Int.tdiv_eq_ediv_of_nonneg hp]
  apply Int.le_ediv_of_mul_le hc
  have h1 : 0 ≤ p / d := Int.ediv_nonneg hp (by omega)
  have h2 : p / d * c ≤ p / d * d := Int.mul_le_mul_of_nonneg_left h h1
  have h3 : p / d * d ≤ p := Int.ediv_mul_le p (by omega)
  omega
theorem neg_div_up {p c d : Int} (hp : p ≤ 0) (hc : 0 < c) (h : c ≤ d) : p.tdiv c ≤ p.tdiv d := by
  have := nat_div_dn (p := -p) (by omega) hc h
  rw [Int.neg_tdiv, Int.neg_tdiv] at this
  omega
theorem bt_div_pos {c d q : Int} (hc : 0 < c) (h : c ≤ q) (k : q ≤ d) (p : Int) : bt (p.tdiv c) (p.tdiv d) (p.tdiv q) := by
  by_cases hp : 0 ≤ p
  · exact bt_dn (nat_div_dn hp (by omega) k) (nat_div_dn hp hc h)
  · exact bt_up (neg_div_up (by omega) hc h) (neg_div_up (by omega) (by omega) k)
theorem bt_div' {c d q : Int} (hc : 0 < c ∨ d < 0) (h : c ≤ q) (k : q ≤ d) (p : Int) : bt (p.tdiv c) (p.tdiv d) (p.tdiv q) := by
  rcases hc with hc | hc
  · exact bt_div_pos hc h k p
  · have := bt_div_pos (c := -d) (d := -c) (q := -q) (by omega) (by omega) (by omega) p
    rw [Int.tdiv_neg, Int.tdiv_neg, Int.tdiv_neg] at this
    unfold bt mn mx at *
    obtain ⟨h1, h2⟩ := this
    constructor
    · clear h1; (repeat' split at h2) <;> (repeat' split) <;> omega
    · clear h2; (repeat' split at h1) <;> (repeat' split) <;> omega
theorem div4_has {x y : I} {p q : Int} (hc : 0 < y.1 ∨ y.2 < 0) (hp : x.1 ≤ p ∧ p ≤ x.2) (hq : y.1 ≤ q ∧ q ≤ y.2) : (div4 x y).1 ≤ p.tdiv q ∧ p.tdiv q ≤ (div4 x y).2 :=
  four (bt_div' hc hq.1 hq.2 x.1) (bt_div' hc hq.1 hq.2 x.2) (bt_div hp.1 hp.2 q)
theorem pick_has {x : I} (h : x.1 ≤ x.2) (n : Int) : x.1 ≤ pickV x n ∧ pickV x n ≤ x.2 := by
  unfold pickV
  generalize hs : x.2 - x.1 + 1 = s
  have hs0 : 0 < s := by omega
  have h1 : -s < n.tmod s := by
    by_cases hn : 0 ≤ n
    · have := Int.tmod_nonneg s hn; omega
    · have := Int.tmod_lt_of_pos (-n) hs0
      rw [Int.neg_tmod] at this
      omega
  have h2 := Int.tmod_nonneg s (show 0 ≤ n.tmod s + s by omega)
  have h3 := Int.tmod_lt_of_pos (n.tmod s + s) hs0
  omega
set_option maxRecDepth 100000
theorem has_iff {a b n : Int} : hasB (a, b) n = true ↔ a ≤ n ∧ n ≤ b := by simp [hasB]
theorem leq_nn (y : I) : leqB nn y = true := rfl
theorem leq_of {a b c d : Int} (h : c ≤ a) (k : b ≤ d) : leqB (a, b) (c, d) = true := by simp [leqB]; omega
def goodK (a b c d : Int) (u : I × I) (holds : Prop) (p q : Int) : Prop :=
  (holds → hasB u.1 p = true ∧ hasB u.2 q = true) ∧ leqB u.1 (a, b) = true ∧ leqB u.2 (c, d) = true ∧ empB u.1 = empB u.2
theorem good_nn {a b c d : Int} {holds : Prop} {p q : Int} (h : ¬ holds) : goodK a b c d (nn, nn) holds p q := ⟨fun k => absurd k h, rfl, rfl, rfl⟩
theorem good_mk {a b c d e f g k : Int} {holds : Prop} {p q : Int} (h1 : holds → (e ≤ p ∧ p ≤ f) ∧ g ≤ q ∧ q ≤ k) (h2 : a ≤ e ∧ f ≤ b ∧ c ≤ g ∧ k ≤ d) (h3 : e ≤ f ∧ g ≤ k) : goodK a b c d ((e, f), (g, k)) holds p q :=
  ⟨fun h => ⟨has_iff.2 (h1 h).1, has_iff.2 (h1 h).2⟩, leq_of h2.1 h2.2.1, leq_of h2.2.2.1 h2.2.2.2, by rw [emp_no h3.1, emp_no h3.2]⟩
theorem keeps_ref (r : Int) (h1 : 1 ≤ r) (h2 : r ≤ 6) {a b c d p q : Int} (hx : a ≤ b) (hy : c ≤ d) (hp : a ≤ p ∧ p ≤ b) (hq : c ≤ q ∧ q ≤ d) :
    goodK a b c d (refI r (a, b) (c, d)) (relR r p q = true) p q := by
  have hr : r = 1 ∨ r = 2 ∨ r = 3 ∨ r = 4 ∨ r = 5 ∨ r = 6 := by omega
  rcases hr with rfl | rfl | rfl | rfl | rfl | rfl
  · rw [show relR 1 p q = decide (p < q) from rfl, ref1 hx hy]
    simp only [decide_eq_true_eq]
    split
    · exact good_mk (by unfold mn mx; omega) (by unfold mn mx; omega) (by unfold mn mx; omega)
    · exact good_nn (by omega)
  · rw [show relR 2 p q = decide (p ≤ q) from rfl, ref2 hx hy]
    simp only [decide_eq_true_eq]
    split
    · exact good_mk (by unfold mn mx; omega) (by unfold mn mx; omega) (by unfold mn mx; omega)
    · exact good_nn (by omega)
  · rw [show relR 3 p q = (p == q) from rfl, ref3 hx hy]
    simp only [beq_iff_eq]
    split
    · exact good_mk (by unfold mn mx; omega) (by unfold mn mx; omega) (by unfold mn mx; omega)
    · exact good_nn (by omega)
  · rw [show relR 4 p q = (p != q) from rfl, ref4 hx hy]
    simp only [bne_iff_ne]
    split
    · exact good_nn (by omega)
    · exact good_mk (by omega) (by omega) (by omega)
  · rw [show relR 5 p q = decide (p ≥ q) from rfl, ref5 hx hy]
    simp only [decide_eq_true_eq]
    split
    · exact good_mk (by unfold mn mx; omega) (by unfold mn mx; omega) (by unfold mn mx; omega)
    · exact good_nn (by omega)
  · rw [show relR 6 p q = decide (p > q) from rfl, ref6 hx hy]
    simp only [decide_eq_true_eq]
    split
    · exact good_mk (by unfold mn mx; omega) (by unfold mn mx; omega) (by unfold mn mx; omega)
    · exact good_nn (by omega)
theorem le_of_emp {x : I} (h : empB x = false) : x.1 ≤ x.2 := by simp only [empB, decide_eq_false_iff_not] at h; omega
set_option maxRecDepth 100000
theorem has_le {x : I} {n : Int} : hasB x n = true ↔ x.1 ≤ n ∧ n ≤ x.2 := by simp [hasB]
theorem fit_iff {n : Int} : fitB n = true ↔ -2147483648 ≤ n ∧ n ≤ 2147483647 := by simp [fitB]
theorem fin_has {x : I} {n : Int} (h : x.1 ≤ n ∧ n ≤ x.2) : (fitB n = true → hasB (iMeet x aa) n = true) ∧ (fitB n = false → (!leqB x aa) = true) := by
  obtain ⟨a, b⟩ := x
  simp only at h
  constructor
  · intro hf
    have hf := fit_iff.1 hf
    have hab : a ≤ b := by omega
    show hasB (iMeet (a, b) (-2147483648, 2147483647)) n = true
    rw [meet_if hab (by decide), if_pos (by omega)]
    exact has_iff.2 (by unfold mx mn; omega)
  · intro hf
    have hf : ¬ (-2147483648 ≤ n ∧ n ≤ 2147483647) := fun k => by rw [fit_iff.2 k] at hf; cases hf
    have hab : empB (a, b) = false := emp_no (by omega)
    show (!(empB (a, b) || (decide (a ≥ -2147483648) && decide (b ≤ 2147483647)))) = true
    rw [hab]
    simp only [Bool.false_or, Bool.not_eq_true', Bool.and_eq_false_iff, decide_eq_false_iff_not]
    omega
theorem join_has_l {x y : I} {n : Int} (h : hasB x n = true) : hasB (iJoin x y) n = true := by
  obtain ⟨a, b⟩ := x
  obtain ⟨c, d⟩ := y
  have h := has_iff.1 h
  unfold iJoin
  rw [emp_no (a := a) (b := b) (by omega)]
  simp only [Bool.false_eq_true, if_false]
  split
  · exact has_iff.2 h
  · exact has_iff.2 (by unfold mx mn; omega)
theorem join_has_r {x y : I} {n : Int} (h : hasB y n = true) : hasB (iJoin x y) n = true := by rw [join_comm]; exact join_has_l h
theorem has_ne {x : I} {n : Int} (h : x.1 ≤ n ∧ n ≤ x.2) : empB x = false := by simp only [empB, decide_eq_false_iff_not]; omega
theorem meet_in {y p : I} {q : Int} (h : y.1 ≤ q ∧ q ≤ y.2) (k : p.1 ≤ q ∧ q ≤ p.2) : (iMeet y p).1 ≤ q ∧ q ≤ (iMeet y p).2 ∧ p.1 ≤ (iMeet y p).1 ∧ (iMeet y p).2 ≤ p.2 := by
  obtain ⟨a, b⟩ := y
  obtain ⟨c, d⟩ := p
  simp only at h k
  rw [meet_if (by omega) (by omega), if_pos (by omega)]
  unfold mx mn
  simp only
  refine ⟨?_, ?_, ?_, ?_⟩ <;> split <;> omega
theorem quo_has {x y : I} {p q : Int} (hp : x.1 ≤ p ∧ p ≤ x.2) (hq : y.1 ≤ q ∧ q ≤ y.2) (hf : -2147483648 ≤ q ∧ q ≤ 2147483647) (h0 : q ≠ 0) :
    (fitB (p.tdiv q) = true → hasB (quoV x y).1 (p.tdiv q) = true) ∧ (fitB (p.tdiv q) = false → (quoV x y).2 = true) := by
  by_cases hs : 0 < q
  · have hm := meet_in (p := pP) hq (show (1 : Int) ≤ q ∧ q ≤ 2147483647 by omega)
    have h1 := fin_has (div4_has (y := iMeet y pP) (.inl (by have := hm.2.2.1; simp only [pP] at this; simp only [pP]; omega)) hp ⟨hm.1, hm.2.1⟩)
    have e1 : quo1 x y = (iJoin nn (iMeet (div4 x (iMeet y pP)) aa), !leqB (div4 x (iMeet y pP)) aa) := by
      unfold quo1; rw [has_ne ⟨hm.1, hm.2.1⟩]; rfl
    unfold quoV
    cases empB (iMeet y pM) with
    | true =>
      rw [if_pos rfl, e1]
      exact ⟨fun h => join_has_r (h1.1 h), fun h => h1.2 h⟩
    | false =>
      rw [if_neg (by decide), e1]
      refine ⟨fun h => join_has_l (join_has_r (h1.1 h)), fun h => ?_⟩
      simp only [h1.2 h, Bool.true_or]
  · have hm := meet_in (p := pM) hq (show (-2147483648 : Int) ≤ q ∧ q ≤ -1 by omega)
    have h1 := fin_has (div4_has (y := iMeet y pM) (.inr (by have := hm.2.2.2; simp only [pM] at this; simp only [pM]; omega)) hp ⟨hm.1, hm.2.1⟩)
    unfold quoV
    rw [has_ne ⟨hm.1, hm.2.1⟩, if_neg (by decide)]
    refine ⟨fun h => join_has_r (h1.1 h), fun h => ?_⟩
    simp only [h1.2 h, Bool.or_true]
theorem tmod_bound {p q : Int} (h0 : q ≠ 0) : (p.tmod q).natAbs < q.natAbs ∧ (p.tmod q).natAbs ≤ p.natAbs ∧ (0 ≤ p → 0 ≤ p.tmod q) ∧ (p ≤ 0 → p.tmod q ≤ 0) := by
  refine ⟨mod_lt h0, mod_abs (Nat.le_refl _), fun h => Int.tmod_nonneg q h, fun h => ?_⟩
  have := Int.tmod_nonneg q (show 0 ≤ -p by omega)
  rw [Int.neg_tmod] at this
  omega
theorem rem_has {x y : I} {p q : Int} (hp : x.1 ≤ p ∧ p ≤ x.2) (hq : y.1 ≤ q ∧ q ≤ y.2) (h0 : q ≠ 0) : hasB (remI x y) (p.tmod q) = true := by
  obtain ⟨b1, b2, b3, b4⟩ := tmod_bound (p := p) h0
  unfold remI
  rw [if_neg (by omega)]
  rw [has_le]
  simp only
  generalize p.tmod q = t at *
  have hm : ∃ m, m = mx (mx (mx y.2 (-y.2)) y.1) (-y.1) - 1 ∧ y.2 - 1 ≤ m ∧ -y.2 - 1 ≤ m ∧ y.1 - 1 ≤ m ∧ -y.1 - 1 ≤ m := ⟨_, rfl, by unfold mx; (repeat' split) <;> omega⟩
  obtain ⟨m, hm, m1, m2, m3, m4⟩ := hm
  rw [← hm]
  clear hm
  unfold mx mn
  constructor
  · by_cases k : x.1 < 0
    · rw [if_pos k]; split <;> omega
    · rw [if_neg k]; omega
  · by_cases k : x.2 > 0
    · rw [if_pos k]; split <;> omega
    · rw [if_neg k]; omega
/- what ItvSound asks for -/
def soundQ (d : Int × Int) (r : R3) : Prop :=
  (d.2 = 0 ∧ hasB r.1 d.1 = true) ∨ (d.2 = 7 ∧ r.2.1 = true) ∨ (d.2 = 8 ∧ r.2.2 = true)
theorem sound_do (op : Int) (h1 : 1 ≤ op) (h2 : op ≤ 5) {x y : I} {p q : Int} (hp : x.1 ≤ p ∧ p ≤ x.2) (hq : y.1 ≤ q ∧ q ≤ y.2) (fp : fitB p = true) (fq : fitB q = true) :
    soundQ (doR op p q) (doI op x y) := by
  have ho : op = 1 ∨ op = 2 ∨ op = 3 ∨ op = 4 ∨ op = 5 := by omega
  have ex : empB x = false := has_ne hp
  have ey : empB y = false := has_ne hq
  have fin : ∀ {n : Int} {u : I}, u.1 ≤ n ∧ n ≤ u.2 → soundQ (if fitB n then (n, 0) else (0, 7)) (fin3 u) := by
    intro n u h
    have := fin_has h
    cases hn : fitB n with
    | true => exact .inl ⟨rfl, this.1 hn⟩
    | false => exact .inr (.inl ⟨rfl, this.2 hn⟩)
  rcases ho with rfl | rfl | rfl | rfl | rfl
  · have e1 : doR 1 p q = if fitB (p + q) then (p + q, 0) else (0, 7) := by simp [doR, fp, fq]
    have e2 : doI 1 x y = fin3 (x.1 + y.1, x.2 + y.2) := by simp [doI, ex, ey]
    rw [e1, e2]; exact fin (by simp only; omega)
  · have e1 : doR 2 p q = if fitB (p - q) then (p - q, 0) else (0, 7) := by simp [doR, fp, fq]
    have e2 : doI 2 x y = fin3 (x.1 - y.2, x.2 - y.1) := by simp [doI, ex, ey]
    rw [e1, e2]; exact fin (by simp only; omega)
  · have e1 : doR 3 p q = if fitB (p * q) then (p * q, 0) else (0, 7) := by simp [doR, fp, fq]
    have e2 : doI 3 x y = fin3 (mul4 x y) := by simp [doI, ex, ey]
    rw [e1, e2]; exact fin (mul4_has hp hq)
  · have e2 : doI 4 x y = ((quoV x y).1, (quoV x y).2, hasB y 0) := by simp [doI, ex, ey]
    by_cases h0 : q = 0
    · subst h0
      have e1 : doR 4 p 0 = (0, 8) := by simp [doR, fp, fq]
      rw [e1, e2]; exact .inr (.inr ⟨rfl, has_le.2 hq⟩)
    · have e1 : doR 4 p q = if fitB (p.tdiv q) then (p.tdiv q, 0) else (0, 7) := by simp [doR, fp, fq, h0]
      rw [e1, e2]
      have := quo_has hp hq (fit_iff.1 fq) h0
      cases hn : fitB (p.tdiv q) with
      | true => exact .inl ⟨rfl, this.1 hn⟩
      | false => exact .inr (.inl ⟨rfl, this.2 hn⟩)
  · have e2 : doI 5 x y = (remI x y, false, hasB y 0) := by simp [doI, ex, ey]
    by_cases h0 : q = 0
    · subst h0
      have e1 : doR 5 p 0 = (0, 8) := by simp [doR, fp, fq]
      rw [e1, e2]; exact .inr (.inr ⟨rfl, has_le.2 hq⟩)
    · have hf : fitB (p.tmod q) = true := by
        have b := tmod_bound (p := p) h0
        have := fit_iff.1 fp
        exact fit_iff.2 (by omega)
      have e1 : doR 5 p q = (p.tmod q, 0) := by simp [doR, fp, fq, h0, hf]
      rw [e1, e2]
      exact .inl ⟨rfl, rem_has hp hq h0⟩
theorem isB_fit {x : I} (h : isB x = true) (k : x.1 ≤ x.2) {p : Int} (hp : x.1 ≤ p ∧ p ≤ x.2) : fitB p = true := by
  have := isB_ne h k
  exact fit_iff.2 (by omega)
set_option maxRecDepth 100000
theorem mn_self (n : Int) : mn n n = n := by unfold mn; split <;> rfl
theorem mx_self (n : Int) : mx n n = n := by unfold mx; split <;> rfl
theorem fin_pt (n : Int) : fin3 (n, n) = if fitB n then ((n, n), false, false) else (nn, true, false) := by
  unfold fin3
  rw [show iMeet (n, n) aa = iMeet (n, n) (-2147483648, 2147483647) from rfl, meet_if (Int.le_refl n) (by decide)]
  by_cases h : -2147483648 ≤ n ∧ n ≤ 2147483647
  · rw [if_pos (by omega), if_pos (fit_iff.2 h), show leqB (n, n) aa = true from leq_of h.1 h.2]
    rw [show mx n (-2147483648) = n by unfold mx; split <;> omega, show mn n 2147483647 = n by unfold mn; split <;> omega]
    rfl
  · have hf : fitB n = false := by cases e : fitB n with | false => rfl | true => exact absurd (fit_iff.1 e) h
    have := (fin_has (x := (n, n)) (n := n) (by simp)).2 hf
    rw [if_neg (by omega), if_neg (by rw [hf]; decide), this]
theorem mul4_pt (a b : Int) : mul4 (a, a) (b, b) = (a * b, a * b) := by simp only [mul4, mn_self, mx_self]
theorem div4_pt (a b : Int) : div4 (a, a) (b, b) = (a.tdiv b, a.tdiv b) := by simp only [div4, mn_self, mx_self]
def pointQ (d : Int × Int) (r : R3) : Prop :=
  (d.2 = 0 ∧ fitB d.1 = true ∧ r = ((d.1, d.1), false, false)) ∨ (d.2 = 7 ∧ r = (nn, true, false)) ∨ (d.2 = 8 ∧ r = (nn, false, true))
theorem meet_pt_in {b c d : Int} (h : c ≤ b ∧ b ≤ d) : iMeet (b, b) (c, d) = (b, b) := by
  rw [meet_if (Int.le_refl b) (by omega), if_pos (by omega)]
  unfold mx mn
  simp only [Prod.mk.injEq]
  constructor <;> split <;> omega
theorem meet_pt_out {b c d : Int} (k : c ≤ d) (h : ¬ (c ≤ b ∧ b ≤ d)) : iMeet (b, b) (c, d) = nn := by
  rw [meet_if (Int.le_refl b) k, if_neg (by omega)]
theorem join_nn_fin (n : Int) : iJoin nn (fin3 (n, n)).1 = (fin3 (n, n)).1 := by
  rw [fin_pt]
  split
  · exact join_nl (Int.le_refl n)
  · rfl
theorem point_do (op : Int) (h1 : 1 ≤ op) (h2 : op ≤ 4) {p q : Int} (fp : fitB p = true) (fq : fitB q = true) : pointQ (doR op p q) (doI op (p, p) (q, q)) := by
  have ho : op = 1 ∨ op = 2 ∨ op = 3 ∨ op = 4 := by omega
  have ex : empB (p, p) = false := emp_no (Int.le_refl p)
  have ey : empB (q, q) = false := emp_no (Int.le_refl q)
  have fin : ∀ n : Int, pointQ (if fitB n then (n, 0) else (0, 7)) (fin3 (n, n)) := by
    intro n
    rw [fin_pt]
    cases hn : fitB n with
    | true => exact .inl ⟨rfl, hn, rfl⟩
    | false => exact .inr (.inl ⟨rfl, rfl⟩)
  rcases ho with rfl | rfl | rfl | rfl
  · have e1 : doR 1 p q = if fitB (p + q) then (p + q, 0) else (0, 7) := by simp [doR, fp, fq]
    have e2 : doI 1 (p, p) (q, q) = fin3 (p + q, p + q) := by simp [doI, ex, ey]
    rw [e1, e2]; exact fin _
  · have e1 : doR 2 p q = if fitB (p - q) then (p - q, 0) else (0, 7) := by simp [doR, fp, fq]
    have e2 : doI 2 (p, p) (q, q) = fin3 (p - q, p - q) := by simp [doI, ex, ey]
    rw [e1, e2]; exact fin _
  · have e1 : doR 3 p q = if fitB (p * q) then (p * q, 0) else (0, 7) := by simp [doR, fp, fq]
    have e2 : doI 3 (p, p) (q, q) = fin3 (p * q, p * q) := by simp [doI, ex, ey, mul4_pt]
    rw [e1, e2]; exact fin _
  · have e2 : doI 4 (p, p) (q, q) = ((quoV (p, p) (q, q)).1, (quoV (p, p) (q, q)).2, hasB (q, q) 0) := by simp [doI, ex, ey]
    have hq := fit_iff.1 fq
    by_cases h0 : q = 0
    · subst h0
      have e1 : doR 4 p 0 = (0, 8) := by simp [doR, fp, fq]
      rw [e1, e2]; exact .inr (.inr ⟨rfl, rfl⟩)
    · have e1 : doR 4 p q = if fitB (p.tdiv q) then (p.tdiv q, 0) else (0, 7) := by simp [doR, fp, fq, h0]
      have e3 : hasB (q, q) 0 = false := by simp [hasB]; omega
      have e4 : quoV (p, p) (q, q) = ((fin3 (p.tdiv q, p.tdiv q)).1, (fin3 (p.tdiv q, p.tdiv q)).2.1) := by
        by_cases hs : 0 < q
        · have a1 : iMeet (q, q) pM = nn := meet_pt_out (by decide) (by omega)
          have a2 : iMeet (q, q) pP = (q, q) := meet_pt_in (by omega)
          unfold quoV quo1
          rw [a1, a2, ey, if_pos (show empB nn = true from rfl), if_neg (show ¬ (false = true) by decide), div4_pt]
          show (iJoin nn (fin3 (p.tdiv q, p.tdiv q)).1, _) = _
          rw [join_nn_fin]; rfl
        · have a1 : iMeet (q, q) pP = nn := meet_pt_out (by decide) (by omega)
          have a2 : iMeet (q, q) pM = (q, q) := meet_pt_in (by omega)
          unfold quoV quo1
          rw [a1, a2, ey, if_neg (show ¬ (false = true) by decide), if_pos (show empB nn = true from rfl), div4_pt]
          show (iJoin nn (fin3 (p.tdiv q, p.tdiv q)).1, _) = _
          rw [join_nn_fin]; rfl
      have e5 : ∀ n : Int, (fin3 (n, n)) = ((fin3 (n, n)).1, (fin3 (n, n)).2.1, false) := fun n => rfl
      rw [e1, e2, e3, e4, ← e5]
      exact fin _
/- greater intervals -/
def sub (x y : I) : Prop := y.1 ≤ x.1 ∧ x.2 ≤ y.2
theorem leq_iff {x y : I} : leqB x y = true ↔ (x.1 > x.2 ∨ sub x y) := by simp [leqB, empB, sub]
theorem leq_trans {x y z : I} (h : leqB x y = true) (k : leqB y z = true) : leqB x z = true := by
  rw [leq_iff] at *; unfold sub at *; omega
theorem meet_aa_sub {u v : I} (h : sub u v) : leqB (iMeet u aa) (iMeet v aa) = true := by
  obtain ⟨a, b⟩ := u
  obtain ⟨c, d⟩ := v
  unfold sub at h; simp only at h
  by_cases k : a ≤ b
  · rw [show aa = ((-2147483648, 2147483647) : I) from rfl, meet_if k (by decide), meet_if (by omega) (by decide)]
    by_cases k2 : a ≤ 2147483647 ∧ -2147483648 ≤ b
    · rw [if_pos k2, if_pos (by omega)]
      exact leq_of (by unfold mx; (repeat' split) <;> omega) (by unfold mn; (repeat' split) <;> omega)
    · rw [if_neg k2]; rfl
  · have : iMeet (a, b) aa = nn := by unfold iMeet; rw [emp_yes (by omega)]; rfl
    rw [this]; rfl
theorem leq_aa_sub {u v : I} (h : sub u v) (k : u.1 ≤ u.2) (ho : (!leqB u aa) = true) : (!leqB v aa) = true := by
  cases e : leqB v aa with
  | false => rfl
  | true =>
    have : leqB u aa = true := leq_trans (leq_iff.2 (.inr h)) e
    rw [this] at ho; cases ho
theorem join_l (x y : I) : leqB x (iJoin x y) = true := by
  simp only [leqB, iJoin, empB, nn, mn, mx, Bool.or_eq_true, Bool.and_eq_true, decide_eq_true_eq]
  (repeat' split) <;> simp_all <;> (try (repeat' split)) <;> omega
theorem join_le (x y z : I) : leqB (iJoin x y) z = (leqB x z && leqB y z) := by
  rw [Bool.eq_iff_iff]
  simp only [leqB, iJoin, empB, nn, mn, mx, Bool.or_eq_true, Bool.and_eq_true, decide_eq_true_eq]
  (repeat' split) <;> simp_all <;> (try (repeat' split)) <;> omega
theorem join_r2 (x y : I) : leqB y (iJoin x y) = true := by rw [join_comm]; exact join_l y x
theorem join_mono {x y z w : I} (h : leqB x z = true) (k : leqB y w = true) : leqB (iJoin x y) (iJoin z w) = true := by
  rw [join_le, leq_trans h (join_l z w), leq_trans k (join_r2 z w)]; rfl
theorem four_in {a b c d l h : Int} (h1 : l ≤ a ∧ a ≤ h) (h2 : l ≤ b ∧ b ≤ h) (h3 : l ≤ c ∧ c ≤ h) (h4 : l ≤ d ∧ d ≤ h) :
    l ≤ mn (mn (mn a b) c) d ∧ mx (mx (mx a b) c) d ≤ h := by
  unfold mn mx; constructor <;> (repeat' split) <;> omega
theorem mul4_sub {x y z w : I} (kx : x.1 ≤ x.2) (ky : y.1 ≤ y.2) (h : sub x z) (k : sub y w) : sub (mul4 x y) (mul4 z w) := by
  unfold sub at h k
  exact four_in (mul4_has (by omega) (by omega)) (mul4_has (by omega) (by omega)) (mul4_has (by omega) (by omega)) (mul4_has (by omega) (by omega))
theorem div4_sub {x y z w : I} (hc : 0 < w.1 ∨ w.2 < 0) (kx : x.1 ≤ x.2) (ky : y.1 ≤ y.2) (h : sub x z) (k : sub y w) : sub (div4 x y) (div4 z w) := by
  unfold sub at h k
  exact four_in (div4_has hc (by omega) (by omega)) (div4_has hc (by omega) (by omega)) (div4_has hc (by omega) (by omega)) (div4_has hc (by omega) (by omega))
theorem meet_sub {y w p : I} (hp : p.1 ≤ p.2) (k : sub y w) (h : empB (iMeet y p) = false) :
    sub (iMeet y p) (iMeet w p) ∧ empB (iMeet w p) = false ∧ p.1 ≤ (iMeet w p).1 ∧ (iMeet w p).2 ≤ p.2 := by
  obtain ⟨e1, e2, e3, e4⟩ := iMeet_ne h
  obtain ⟨a, b⟩ := y
  obtain ⟨c, d⟩ := w
  obtain ⟨m, n⟩ := p
  unfold sub at *
  simp only at *
  have q1 : mx a m = a ∨ mx a m = m := by unfold mx; split <;> simp
  have q2 : a ≤ mx a m ∧ m ≤ mx a m := by unfold mx; split <;> omega
  have q3 : mn b n = b ∨ mn b n = n := by unfold mn; split <;> simp
  have q4 : mn b n ≤ b ∧ mn b n ≤ n := by unfold mn; split <;> omega
  rw [meet_if (show c ≤ d by omega) hp, if_pos (by omega), e1]
  have r1 : mx c m = c ∨ mx c m = m := by unfold mx; split <;> simp
  have r2 : c ≤ mx c m ∧ m ≤ mx c m := by unfold mx; split <;> omega
  have r3 : mn d n = d ∨ mn d n = n := by unfold mn; split <;> simp
  have r4 : mn d n ≤ d ∧ mn d n ≤ n := by unfold mn; split <;> omega
  refine ⟨⟨?_, ?_⟩, emp_no ?_, ?_, ?_⟩ <;> (try simp only) <;> omega
def lessF (u v : I × Bool) : Prop := leqB u.1 v.1 = true ∧ (u.2 = true → v.2 = true)
theorem fin_sub {u v : I} (h : sub u v) (k : u.1 ≤ u.2) : lessF (iMeet u aa, !leqB u aa) (iMeet v aa, !leqB v aa) := ⟨meet_aa_sub h, fun e => leq_aa_sub h k e⟩
theorem quo1_sub {x y z w : I} (kx : x.1 ≤ x.2) (h : sub x z) (k : sub y w) : lessF (quo1 x y) (quo1 z w) := by
  unfold quo1
  cases hy : empB (iMeet y pP) with
  | true => exact ⟨rfl, fun e => (nomatch e)⟩
  | false =>
    obtain ⟨a1, a2, a3, a4⟩ := meet_sub (p := pP) (by decide) k hy
    rw [a2, if_neg (by decide), if_neg (by decide)]
    have f := fin_sub (div4_sub (x := x) (y := iMeet y pP) (z := z) (w := iMeet w pP) (.inl (by simp only [pP] at a3 ⊢; omega)) kx (le_of_emp hy) h a1) (div4_le _ _)
    exact ⟨join_mono rfl f.1, f.2⟩
theorem quo_sub {x y z w : I} (kx : x.1 ≤ x.2) (h : sub x z) (k : sub y w) : lessF (quoV x y) (quoV z w) := by
  have q := quo1_sub kx h k
  unfold quoV
  cases hy : empB (iMeet y pM) with
  | true =>
    rw [if_pos rfl]
    split
    · exact q
    · exact ⟨leq_trans q.1 (join_l _ _), fun e => by simp only [q.2 e, Bool.true_or]⟩
  | false =>
    obtain ⟨a1, a2, a3, a4⟩ := meet_sub (p := pM) (by decide) k hy
    rw [a2, if_neg (by decide), if_neg (by decide)]
    have f := fin_sub (div4_sub (x := x) (y := iMeet y pM) (z := z) (w := iMeet w pM) (.inr (by simp only [pM] at a4 ⊢; omega)) kx (le_of_emp hy) h a1) (div4_le _ _)
    refine ⟨join_mono q.1 f.1, fun e => ?_⟩
    simp only [Bool.or_eq_true] at e ⊢
    exact e.imp q.2 f.2
theorem rem_sub {x y z w : I} (kx : x.1 ≤ x.2) (ky : y.1 ≤ y.2) (h : sub x z) (k : sub y w) : leqB (remI x y) (remI z w) = true := by
  unfold remI
  by_cases h0 : y.1 = 0 ∧ y.2 = 0
  · rw [if_pos h0]; rfl
  · unfold sub at h k
    rw [if_neg h0, if_neg (by omega), leq_iff]
    right
    have hm : mx (mx (mx y.2 (-y.2)) y.1) (-y.1) - 1 ≤ mx (mx (mx w.2 (-w.2)) w.1) (-w.1) - 1 := by
      have : y.2 ≤ mx (mx (mx w.2 (-w.2)) w.1) (-w.1) ∧ -y.2 ≤ mx (mx (mx w.2 (-w.2)) w.1) (-w.1) ∧ y.1 ≤ mx (mx (mx w.2 (-w.2)) w.1) (-w.1) ∧ -y.1 ≤ mx (mx (mx w.2 (-w.2)) w.1) (-w.1) := by
        unfold mx; (repeat' split) <;> omega
      generalize mx (mx (mx w.2 (-w.2)) w.1) (-w.1) = m at this ⊢
      unfold mx; (repeat' split) <;> omega
    generalize mx (mx (mx w.2 (-w.2)) w.1) (-w.1) - 1 = m' at hm
    generalize hm0 : mx (mx (mx y.2 (-y.2)) y.1) (-y.1) - 1 = m at hm
    have hm1 : 0 ≤ m := by rw [← hm0]; unfold mx; (repeat' split) <;> omega
    clear hm0
    unfold sub mx mn
    simp only
    constructor
    · by_cases c1 : x.1 < 0 <;> by_cases c2 : z.1 < 0 <;> simp only [c1, c2, if_true, if_false] <;> (repeat' split) <;> omega
    · by_cases c1 : x.2 > 0 <;> by_cases c2 : z.2 > 0 <;> simp only [c1, c2, if_true, if_false] <;> (repeat' split) <;> omega
def moreQ (u v : R3) : Prop := leqB u.1 v.1 = true ∧ (u.2.1 = true → v.2.1 = true) ∧ (u.2.2 = true → v.2.2 = true)
theorem more_do (op : Int) {x y z w : I} (kx : empB x = false) (ky : empB y = false) (h : sub x z) (k : sub y w) : moreQ (doI op x y) (doI op z w) := by
  have lx := le_of_emp kx
  have ly := le_of_emp ky
  have hz : z.1 ≤ z.2 := by unfold sub at h; omega
  have hw : w.1 ≤ w.2 := by unfold sub at k; omega
  have kz : empB z = false := by simp only [empB, decide_eq_false_iff_not]; omega
  have kw : empB w = false := by simp only [empB, decide_eq_false_iff_not]; omega
  have fin : ∀ {u v : I}, sub u v → u.1 ≤ u.2 → moreQ (fin3 u) (fin3 v) := fun h k => ⟨(fin_sub h k).1, (fin_sub h k).2, id⟩
  have zer : hasB y 0 = true → hasB w 0 = true := by rw [has_le, has_le]; unfold sub at k; omega
  unfold doI
  rw [kx, ky, kz, kw]
  simp only [Bool.or_self, Bool.false_eq_true, if_false]
  unfold sub at h k
  (repeat' split)
  · exact fin (by unfold sub; simp only; omega) (by simp only; omega)
  · exact fin (by unfold sub; simp only; omega) (by simp only; omega)
  · exact fin (mul4_sub lx ly h k) (mul4_le _ _)
  · exact ⟨(quo_sub lx h k).1, (quo_sub lx h k).2, zer⟩
  · exact ⟨rem_sub lx ly h k, id, zer⟩
  · exact ⟨rfl, id, id⟩
theorem rjoin_up {x z : I} (kx : empB x = false) : sub x (rJoin x z) := by
  unfold rJoin
  rw [kx, if_neg (by decide)]
  unfold sub
  split
  · omega
  · unfold mn mx; simp only; constructor <;> split <;> omega
theorem rjoin_is {x z : I} (hx : isB x = true) (hz : isB z = true) : isB (rJoin x z) = true := by
  unfold rJoin
  cases ex : empB x with
  | true => exact hz
  | false =>
    cases ez : empB z with
    | true => exact hx
    | false =>
      have b1 := isB_ne hx (le_of_emp ex)
      have b2 := isB_ne hz (le_of_emp ez)
      have l1 := le_of_emp ex
      have l2 := le_of_emp ez
      exact isB_mk (by unfold mn; split <;> omega) (by unfold mn mx; (repeat' split) <;> omega) (by unfold mx; split <;> omega)
theorem more_all (op : Int) (x y z w : I) : moreQ (doI op x y) (doI op (rJoin x z) (rJoin y w)) := by
  cases kx : empB x with
  | true =>
    have : doI op x y = (nn, false, false) := by unfold doI; rw [kx]; rfl
    rw [this]; exact ⟨rfl, fun e => (nomatch e), fun e => (nomatch e)⟩
  | false =>
    cases ky : empB y with
    | true =>
      have : doI op x y = (nn, false, false) := by unfold doI; rw [kx, ky]; rfl
      rw [this]; exact ⟨rfl, fun e => (nomatch e), fun e => (nomatch e)⟩
    | false => exact more_do op kx ky (rjoin_up kx) (rjoin_up ky)
set_option maxRecDepth 100000
set_option linter.unusedVariables false
theorem isB_nn {x : I} (h : isB x = true) (e : empB x = true) : x = nn := by
  simp only [isB, empB, Bool.or_eq_true, Bool.and_eq_true, decide_eq_true_eq, beq_iff_eq] at h e
  rcases h with ⟨h1, h2⟩ | ⟨h1, _⟩
  · exact Prod.ext h1 h2
  · omega
theorem join_eq {x y : I} (hy : isB y = true) : iJoin x y = rJoin x y := join_r fun e => isB_nn hy e
theorem meet_eq {x y : I} (hx : isB x = true) (hy : isB y = true) : iMeet x y = mSpan x y := by
  cases ex : empB x with
  | true =>
    have := isB_nn hx ex
    subst this
    have : iMeet nn y = nn := by unfold iMeet; rw [ex]; rfl
    rw [this]
    unfold mSpan iSpan mx mn nn
    rw [if_pos (by simp only; (repeat' split) <;> omega)]
  | false =>
    cases ey : empB y with
    | true =>
      have := isB_nn hy ey
      subst this
      have : iMeet x nn = nn := by unfold iMeet; rw [ex, ey]; rfl
      rw [this]
      unfold mSpan iSpan mx mn nn
      rw [if_pos (by simp only; (repeat' split) <;> omega)]
    | false => exact meet_span ex ey
theorem of_eq (l : List Int) : ofV l = rofV l := by
  unfold ofV rofV
  congr 1
  funext a d
  rw [join_r (fun e => by simp [empB] at e)]
theorem rb_ne {x y : I} (hx : empB x = false) (hy : empB y = false) (a b c d : Int) : rboth x y (iSpan a b) (iSpan c d) = both x y (a, b) (c, d) := by
  unfold rboth both iSpan
  rw [hx, hy]
  by_cases h : a > b
  · rw [if_pos h, emp_yes h]; simp [show empB nn = true from rfl]
  · rw [if_neg h, emp_no (by omega)]
    by_cases k : c > d
    · rw [if_pos k, emp_yes k]; simp [show empB nn = true from rfl]
    · rw [if_neg k, emp_no (by omega)]
theorem both_emp {x y : I} (h : (empB x || empB y) = true) (p q : I) : both x y p q = (nn, nn) := by unfold both; rw [h]; rfl
theorem rboth_emp {x y : I} (h : (empB x || empB y) = true) (p q : I) : rboth x y p q = (nn, nn) := by unfold rboth; rw [h]; rfl
theorem oth_eq {x y : I} (hx : empB x = false) : oth x y = (if empB (wout x y) then nn else wout x y) := by
  obtain ⟨a, b⟩ := x
  obtain ⟨c, d⟩ := y
  have hx := le_of_emp hx
  simp only at hx
  unfold oth wout
  simp only
  by_cases h : c = d
  · subst h
    rw [if_pos rfl, if_pos rfl]
    by_cases h1 : a = c
    · subst h1
      rw [if_pos rfl, if_pos rfl]
      by_cases h2 : a = b
      · subst h2
        rw [if_pos rfl]
        unfold iSpan
        rw [if_pos (by omega), if_pos (emp_yes (by omega))]
      · rw [if_neg h2]
        unfold iSpan
        rw [if_neg (by omega), if_neg (by rw [emp_no (by omega)]; decide)]
    · rw [if_neg h1, if_neg (Ne.symm h1)]
      by_cases h2 : b = c
      · subst h2
        rw [if_pos rfl, if_pos rfl]
        unfold iSpan
        rw [if_neg (by omega), if_neg (by rw [emp_no (by omega)]; decide)]
      · rw [if_neg h2, if_neg (Ne.symm h2)]
        unfold iSpan
        rw [if_neg (by omega), if_neg (by rw [emp_no (by omega)]; decide)]
  · rw [if_neg h, if_neg h, if_neg (by rw [emp_no (by omega)]; decide)]
theorem ref_eq {r : Int} {x y : I} : refI r x y = rrefI r x y := by
  cases he : (empB x || empB y) with
  | true =>
    unfold refI rrefI
    simp only [both_emp he, rboth_emp he]
    (repeat' split) <;> rfl
  | false =>
    simp only [Bool.or_eq_false_iff] at he
    unfold refI rrefI
    simp only [rb_ne he.1 he.2]
    by_cases h1 : r = 1
    · rw [if_pos h1, if_pos h1]
    rw [if_neg h1, if_neg h1]
    by_cases h2 : r = 2
    · rw [if_pos h2, if_pos h2]
    rw [if_neg h2, if_neg h2]
    by_cases h5 : r = 5
    · rw [if_pos h5, if_neg (by omega), if_pos h5]
    rw [if_neg h5]
    by_cases h6 : r = 6
    · rw [if_pos h6, if_pos h6]
    rw [if_neg h6, if_neg h6, if_neg h5]
    by_cases h3 : r = 3
    · rw [if_pos h3, if_pos h3, meet_span he.1 he.2]; rfl
    rw [if_neg h3, if_neg h3]
    by_cases h4 : r = 4
    · rw [if_pos h4, if_pos h4, oth_eq he.1, oth_eq he.2]
      unfold both rboth
      rw [he.1, he.2]
      cases e1 : empB (wout x y) <;> cases e2 : empB (wout y x) <;> simp [e1, e2, show empB nn = true from rfl]
    rw [if_neg h4, if_neg h4]
theorem widS_eq (z : I) (hz1 : z.1 ≤ 2147483647) (hz2 : -2147483648 ≤ z.2) (l : List Int) : widS z l = rwidS z l := by
  unfold widS rwidS
  suffices h : ∀ (l : List Int) (s : I), -2147483648 ≤ s.1 → s.2 ≤ 2147483647 →
      l.foldl (fun s d => if fitB d then (if d ≤ z.1 then mx s.1 d else s.1, if d ≥ z.2 then mn s.2 d else s.2) else (s.1, s.2)) s = l.foldl (fun s d => (if d ≤ z.1 ∧ d > s.1 then d else s.1, if d ≥ z.2 ∧ d < s.2 then d else s.2)) s from
    h l aa (by decide) (by decide)
  intro l
  induction l with
  | nil => intros; rfl
  | cons d r ih =>
    intro s h1 h2
    rw [List.foldl_cons, List.foldl_cons]
    have e : (if fitB d = true then (if d ≤ z.1 then mx s.1 d else s.1, if d ≥ z.2 then mn s.2 d else s.2) else (s.1, s.2)) = ((if d ≤ z.1 ∧ d > s.1 then d else s.1, if d ≥ z.2 ∧ d < s.2 then d else s.2) : I) := by
      by_cases hf : fitB d = true
      · rw [if_pos hf]
        unfold mx mn
        simp only [Prod.mk.injEq]
        constructor <;> (repeat' split) <;> omega
      · rw [if_neg hf]
        have hf' : ¬ (-2147483648 ≤ d ∧ d ≤ 2147483647) := fun k => hf (fit_iff.2 k)
        rw [if_neg (by omega), if_neg (by omega)]
    rw [e]
    refine ih _ ?_ ?_
    · simp only; split <;> omega
    · simp only; split <;> omega
theorem isB_ends {x : I} (h : isB x = true) : x.1 ≤ 2147483647 ∧ -2147483648 ≤ x.2 ∧ -2147483648 ≤ x.1 ∧ x.2 ≤ 2147483647 := by
  cases e : empB x with
  | true => rw [isB_nn h e]; decide
  | false => have := le_of_emp e; have := isB_ne h (le_of_emp e); omega
theorem wid_eq {x y : I} (hx : isB x = true) (hy : isB y = true) (l : List Int) : widV x y l = rwidV x y l := by
  unfold widV rwidV
  rw [join_eq hy, widS_eq _ (isB_ends (rjoin_is hx hy)).1 (isB_ends (rjoin_is hx hy)).2.1]
set_option maxRecDepth 100000
set_option linter.unusedVariables false
def hit (op p q n : Int) : Bool := (doR op p q).2 == 0 && (doR op p q).1 == n
theorem vL7o_eq (op : Int) (x y v : I) : vL7o op x y v [x.1, x.2] (false, false) =
    (((hit op x.1 y.1 v.1 || hit op x.1 y.2 v.1) || hit op x.2 y.1 v.1) || hit op x.2 y.2 v.1, ((hit op x.1 y.1 v.2 || hit op x.1 y.2 v.2) || hit op x.2 y.1 v.2) || hit op x.2 y.2 v.2) := by
  show (((((false || _) || _) || _) || _, (((false || _) || _) || _) || _) : Bool × Bool) = _
  simp only [Bool.false_or]
  rfl
theorem fin_no {u : I} (h : u.1 ≤ u.2) (k : (fin3 u).2.1 = false) : (fin3 u).1 = u ∧ -2147483648 ≤ u.1 ∧ u.2 ≤ 2147483647 := by
  have k : leqB u aa = true := by
    have : (!leqB u aa) = false := k
    simpa using this
  rw [leq_iff] at k
  have k : -2147483648 ≤ u.1 ∧ u.2 ≤ 2147483647 := by
    rcases k with k | k
    · omega
    · exact k
  refine ⟨?_, k⟩
  obtain ⟨a, b⟩ := u
  simp only at h k
  show iMeet (a, b) (-2147483648, 2147483647) = (a, b)
  rw [meet_if h (by decide), if_pos (by omega)]
  unfold mx mn
  simp only [Prod.mk.injEq]
  constructor <;> split <;> omega
theorem hit_of {op p q n : Int} (fp : fitB p = true) (fq : fitB q = true) (h : op = 1 ∧ n = p + q ∨ op = 2 ∧ n = p - q ∨ op = 3 ∧ n = p * q) (hn : fitB n = true) : hit op p q n = true := by
  have e : doR op p q = (n, 0) := by
    rcases h with ⟨rfl, rfl⟩ | ⟨rfl, rfl⟩ | ⟨rfl, rfl⟩ <;> simp [doR, fp, fq, hn]
  unfold hit; rw [e]; simp
theorem mn4 (a b c d : Int) : mn (mn (mn a b) c) d = a ∨ mn (mn (mn a b) c) d = b ∨ mn (mn (mn a b) c) d = c ∨ mn (mn (mn a b) c) d = d := by
  unfold mn; (repeat' split) <;> simp
theorem mx4 (a b c d : Int) : mx (mx (mx a b) c) d = a ∨ mx (mx (mx a b) c) d = b ∨ mx (mx (mx a b) c) d = c ∨ mx (mx (mx a b) c) d = d := by
  unfold mx; (repeat' split) <;> simp
theorem tight (op : Int) (h1 : 1 ≤ op) (h2 : op ≤ 3) {x y : I} (hx : isB x = true) (hy : isB y = true) (ex : empB x = false) (ey : empB y = false) (ho : (doI op x y).2.1 = false) :
    vL7o op x y (doI op x y).1 [x.1, x.2] (false, false) = (true, true) := by
  rw [vL7o_eq]
  have lx := le_of_emp ex
  have ly := le_of_emp ey
  have f1 : fitB x.1 = true := isB_fit hx lx ⟨Int.le_refl _, lx⟩
  have f2 : fitB x.2 = true := isB_fit hx lx ⟨lx, Int.le_refl _⟩
  have g1 : fitB y.1 = true := isB_fit hy ly ⟨Int.le_refl _, ly⟩
  have g2 : fitB y.2 = true := isB_fit hy ly ⟨ly, Int.le_refl _⟩
  have ho3 : op = 1 ∨ op = 2 ∨ op = 3 := by omega
  rcases ho3 with rfl | rfl | rfl
  · have e2 : doI 1 x y = fin3 (x.1 + y.1, x.2 + y.2) := by simp [doI, ex, ey]
    rw [e2] at ho ⊢
    obtain ⟨k1, k2, k3⟩ := fin_no (by simp only; omega) ho
    rw [k1]
    simp only at k2 k3 ⊢
    rw [hit_of f1 g1 (n := x.1 + y.1) (.inl ⟨rfl, rfl⟩) (fit_iff.2 (by omega)), hit_of f2 g2 (n := x.2 + y.2) (.inl ⟨rfl, rfl⟩) (fit_iff.2 (by omega))]
    simp
  · have e2 : doI 2 x y = fin3 (x.1 - y.2, x.2 - y.1) := by simp [doI, ex, ey]
    rw [e2] at ho ⊢
    obtain ⟨k1, k2, k3⟩ := fin_no (by simp only; omega) ho
    rw [k1]
    simp only at k2 k3 ⊢
    rw [hit_of f1 g2 (n := x.1 - y.2) (.inr (.inl ⟨rfl, rfl⟩)) (fit_iff.2 (by omega)), hit_of f2 g1 (n := x.2 - y.1) (.inr (.inl ⟨rfl, rfl⟩)) (fit_iff.2 (by omega))]
    simp
  · have e2 : doI 3 x y = fin3 (mul4 x y) := by simp [doI, ex, ey]
    rw [e2] at ho ⊢
    have ml := mul4_le x y
    obtain ⟨k1, k2, k3⟩ := fin_no ml ho
    rw [k1]
    have F : ∀ n, (mul4 x y).1 ≤ n → n ≤ (mul4 x y).2 → fitB n = true := fun n a b => fit_iff.2 (by omega)
    have A := F _ (Int.le_refl _) ml
    have B := F _ ml (Int.le_refl _)
    have H : ∀ n, fitB n = true → (n = x.1 * y.1 ∨ n = x.1 * y.2 ∨ n = x.2 * y.1 ∨ n = x.2 * y.2) → (((hit 3 x.1 y.1 n || hit 3 x.1 y.2 n) || hit 3 x.2 y.1 n) || hit 3 x.2 y.2 n) = true := by
      intro n hn h
      rcases h with h | h | h | h
      · rw [hit_of f1 g1 (.inr (.inr ⟨rfl, h⟩)) hn]; simp
      · rw [hit_of f1 g2 (.inr (.inr ⟨rfl, h⟩)) hn]; simp
      · rw [hit_of f2 g1 (.inr (.inr ⟨rfl, h⟩)) hn]; simp
      · rw [hit_of f2 g2 (.inr (.inr ⟨rfl, h⟩)) hn]; simp
    rw [H _ A (mn4 _ _ _ _), H _ B (mx4 _ _ _ _)]
theorem ok7 (op : Int) (x : I) (y : I) : ev cxb 7 [aN op, aI x, aI y] = outV (.bool true) := by
  rw [raw7]
  cases hX : isB x with
  | false => rfl
  | true =>
  cases hY : isB y with
  | false => rfl
  | true =>
  cases hx : empB x with
  | true => rfl
  | false =>
  cases hy : empB y with
  | true => rfl
  | false =>
  by_cases h1 : op < 1
  · simp [h1, outV]
  by_cases h2 : op > 3
  · simp [h1, h2, outV]
  cases ho : (doI op x y).2.1 with
  | true => simp [h1, h2, outV]
  | false =>
    rw [tight op (by omega) (by omega) hX hY hx hy ho]
    simp [h1, h2, outV]
theorem ownK : ownKnob Try.prog.godebug = none := by kernel_rfl
theorem laidOut : laidOutB Try.prog = true := by kernel_rfl
theorem law (x : DArgs [.int .i64, tI, tI]) : ∃ fb, ex ((evF cxb keeps 3 7 (avs [.int .i64, tI, tI] x)).bind (finP true)) false ⟨[], 0⟩ ⟨[], []⟩ = some (.bool true, ⟨[], 0⟩, fb) :=
  ev_ex (ok7 x.1 x.2.1 x.2.2.1)
theorem lifted (os : Os) (started : os.Started) (H : Type) (enc : TypeId × Value → H) :
    ReturnsInHanded {} Try.checked os 7 .any (Rows.itvTightSpec.pre6 enc Try.prog Try.f7 Rows.itvTightRow.domain false) (Rows.itvTightSpec.post enc Try.prog Try.f7 false true false false) := by
  refine returnsInHanded_of_change (C := Try.checked) ownK started (by kernel_rfl) Try.func7
    (ChangeSpec.witness6 (enc := enc) (C := Try.checked) false ⟨#[], #[.int .i64 0, .agg #[.int .i64 0, .int .i64 0], .agg #[.int .i64 0, .int .i64 0]], []⟩ 8 (by kernel_rfl) (by kernel_rfl) (by kernel_rfl) (by kernel_rfl)) ?_
  intro W base args ds gs before hval hW _ _
  refine law_calls (tab := tab) (fz := true) (tys := [.int .i64, tI, tI]) (tb := 4) tab_ok laidOut (calb 7) rfl (by kernel_rfl) rfl (by kernel_rfl) rfl (fun ds hds => ?_) (fun x _ => law x) hval hW
  match ds, hds with
  | [_, _, _], _ => rfl
theorem over : Rows.itvTightRow.holds Try.pinned (OpenSpec.ofChange Rows.itvTightSpec) :=
  OpenClaim.holds_of_wide 7 Try.f7 rfl rfl rfl rfl rfl rfl rfl ⟨rfl, rfl, rfl, rfl, rfl⟩ rfl rfl rfl rfl rfl (by kernel_rfl) Try.func7 (by kernel_rfl)
    (of_decide_eq_true (by kernel_rfl)) (by unfold Func.isWrapper; first | (rw [if_pos (by decide +kernel)]; kernel_rfl) | (rw [if_neg (by decide +kernel)]; exact ⟨rfl, rfl⟩))
    (fun os started H enc _ => lifted os started H enc)
end Go.Proofs.Ytcmmchpofkoddaa.Ex
namespace Go.Proofs.Ytcmmchpofkoddaa
theorem itvTight_holds : Rows.ItvTightSaid := Ex.over
#print axioms itvTight_holds
end Go.Proofs.Ytcmmchpofkoddaa
