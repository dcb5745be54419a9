/- For every input ItvOrders returns true, and its arguments read as they did. No condition. -/
import Derived.Test.YtcmmchpofkoddaaXG
import Derived.ProofKit
import Derived.Handed
import Derived.JoinedOf
namespace Go.Proofs.Ytcmmchpofkoddaa.Ex
open Go.Proofs Go.Proofs.Ytcmmchpofkoddaa
set_option maxRecDepth 100000
set_option linter.unusedSimpArgs false
set_option linter.unusedVariables false
def sp6 : Nat → Option (List AV → Prog AV)
  | 31 => some (specP true M31)
  | 20 => some (specP true M20)
  | 39 => some (specP true M39)
  | 51 => some (specP true M51)
  | 37 => some (specP true M37)
  | 38 => some (specP true M38)
  | 29 => some (specP true M29)
  | 23 => some (specP true M23)
  | 33 => some (specP true M33)
  | 58 => some (specP true M58)
  | 26 => some (specP true M26)
  | 27 => some (specP true M27)
  | 34 => some (specP true M34)
  | 24 => some (specP true M24)
  | 28 => some (specP true M28)
  | 57 => some (specP true M57)
  | 25 => some (specP true M25)
  | 21 => some (specP true M21)
  | 22 => some (specP true M22)
  | 41 => some (specP true M41)
  | 59 => some (specP true M59)
  | 50 => some (specP true M50)
  | 16 => some (specP true M16)
  | 35 => some (specP true M35)
  | 47 => some (specP true M47)
  | 52 => some (specP true M52)
  | 60 => some (specP true M60)
  | 55 => some (specP true M55)
  | 42 => some (specP true M42)
  | 43 => some (specP true M43)
  | 56 => some (specP true M56)
  | 40 => some (specP true M40)
  | 53 => some (specP true M53)
  | 49 => some (specP true M49)
  | 54 => some (specP true M54)
  | 30 => some (specP true M30)
  | 45 => some (specP true M45)
  | 17 => some (specP true M17)
  | 18 => some (specP true M18)
  | 19 => some (specP true M19)
  | _ => none
noncomputable def cx6 : Ctx := { tab := tab, spec := sp6, inl := inl, lps := fun _ _ => none, fuel := 10 }
theorem hsp6 : ∀ g p, cx6.spec g = some p → SoundA Try.prog g p := by
  intro g p h
  change sp6 g = some p at h
  unfold sp6 at h
  split at h
  · cases h; exact snd31
  · cases h; exact snd20
  · cases h; exact snd39
  · cases h; exact snd51
  · cases h; exact snd37
  · cases h; exact snd38
  · cases h; exact snd29
  · cases h; exact snd23
  · cases h; exact snd33
  · cases h; exact snd58
  · cases h; exact snd26
  · cases h; exact snd27
  · cases h; exact snd34
  · cases h; exact snd24
  · cases h; exact snd28
  · cases h; exact snd57
  · cases h; exact snd25
  · cases h; exact snd21
  · cases h; exact snd22
  · cases h; exact snd41
  · cases h; exact snd59
  · cases h; exact snd50
  · cases h; exact snd16
  · cases h; exact snd35
  · cases h; exact snd47
  · cases h; exact snd52
  · cases h; exact snd60
  · cases h; exact snd55
  · cases h; exact snd42
  · cases h; exact snd43
  · cases h; exact snd56
  · cases h; exact snd40
  · cases h; exact snd53
  · cases h; exact snd49
  · cases h; exact snd54
  · cases h; exact snd30
  · cases h; exact snd45
  · cases h; exact snd17
  · cases h; exact snd18
  · cases h; exact snd19
  · cases h
theorem in6 : InlOk Try.prog cx6 := ⟨inl_ok, fun _ _ _ _ _ _ _ _ h => nomatch h⟩
theorem cal6 (g : Nat) : SoundA Try.prog g (evF cx6 keeps 3 g) := evF_sound (tabOk_of tab_ok) (cmpsOk_of tab_ok cmps_ok) mixed in6 hsp6 keeps 3 g
open Go.ChangeShapes Go.WideShapes Go.ChangeAt Go.RowKit
theorem raw5 (x : I) (y : I) (z : I) : ev cx6 5 [aI x, aI y, aI z] =
  bif !(Go.Proofs.Ytcmmchpofkoddaa.Ex.isB x && Go.Proofs.Ytcmmchpofkoddaa.Ex.isB y) then Option.some (Go.Proofs.Ytcmmchpofkoddaa.Ex.AV.bool Bool.true, { blks := [], c := 0 })
  else
    bif !Go.Proofs.Ytcmmchpofkoddaa.Ex.isB z then Option.some (Go.Proofs.Ytcmmchpofkoddaa.Ex.AV.bool Bool.true, { blks := [], c := 0 })
    else
      bif Go.Proofs.Ytcmmchpofkoddaa.Ex.leqB x (Go.Proofs.Ytcmmchpofkoddaa.Ex.iJoin x y) then
        bif Go.Proofs.Ytcmmchpofkoddaa.Ex.leqB y (Go.Proofs.Ytcmmchpofkoddaa.Ex.iJoin x y) then
          bif Go.Proofs.Ytcmmchpofkoddaa.Ex.leqB (Go.Proofs.Ytcmmchpofkoddaa.Ex.iMeet x y) x then
            bif Go.Proofs.Ytcmmchpofkoddaa.Ex.leqB (Go.Proofs.Ytcmmchpofkoddaa.Ex.iMeet x y) y then
              bif Go.Proofs.Ytcmmchpofkoddaa.Ex.leqB x z then
                bif Go.Proofs.Ytcmmchpofkoddaa.Ex.leqB y z == Go.Proofs.Ytcmmchpofkoddaa.Ex.leqB (Go.Proofs.Ytcmmchpofkoddaa.Ex.iJoin x y) z then
                  bif Go.Proofs.Ytcmmchpofkoddaa.Ex.leqB z x then
                    bif Go.Proofs.Ytcmmchpofkoddaa.Ex.leqB z y == Go.Proofs.Ytcmmchpofkoddaa.Ex.leqB z (Go.Proofs.Ytcmmchpofkoddaa.Ex.iMeet x y) then
                      bif (Go.Proofs.Ytcmmchpofkoddaa.Ex.iJoin x y).fst == (Go.Proofs.Ytcmmchpofkoddaa.Ex.iJoin y x).fst && (Go.Proofs.Ytcmmchpofkoddaa.Ex.iJoin x y).snd == (Go.Proofs.Ytcmmchpofkoddaa.Ex.iJoin y x).snd then
                        bif (Go.Proofs.Ytcmmchpofkoddaa.Ex.iMeet x y).fst == (Go.Proofs.Ytcmmchpofkoddaa.Ex.iMeet y x).fst && (Go.Proofs.Ytcmmchpofkoddaa.Ex.iMeet x y).snd == (Go.Proofs.Ytcmmchpofkoddaa.Ex.iMeet y x).snd then Option.some (Go.Proofs.Ytcmmchpofkoddaa.Ex.AV.bool Bool.true, { blks := [], c := 0 })
                        else Option.some (Go.Proofs.Ytcmmchpofkoddaa.Ex.AV.bool Bool.false, { blks := [], c := 0 })
                      else Option.some (Go.Proofs.Ytcmmchpofkoddaa.Ex.AV.bool Bool.false, { blks := [], c := 0 })
                    else Option.some (Go.Proofs.Ytcmmchpofkoddaa.Ex.AV.bool Bool.false, { blks := [], c := 0 })
                  else
                    bif Bool.false == Go.Proofs.Ytcmmchpofkoddaa.Ex.leqB z (Go.Proofs.Ytcmmchpofkoddaa.Ex.iMeet x y) then
                      bif (Go.Proofs.Ytcmmchpofkoddaa.Ex.iJoin x y).fst == (Go.Proofs.Ytcmmchpofkoddaa.Ex.iJoin y x).fst && (Go.Proofs.Ytcmmchpofkoddaa.Ex.iJoin x y).snd == (Go.Proofs.Ytcmmchpofkoddaa.Ex.iJoin y x).snd then
                        bif (Go.Proofs.Ytcmmchpofkoddaa.Ex.iMeet x y).fst == (Go.Proofs.Ytcmmchpofkoddaa.Ex.iMeet y x).fst && (Go.Proofs.Ytcmmchpofkoddaa.Ex.iMeet x y).snd == (Go.Proofs.Ytcmmchpofkoddaa.Ex.iMeet y x).snd then Option.some (Go.Proofs.Ytcmmchpofkoddaa.Ex.AV.bool Bool.true, { blks := [], c := 0 })
                        else Option.some (Go.Proofs.Ytcmmchpofkoddaa.Ex.AV.bool Bool.false, { blks := [], c := 0 })
                      else Option.some (Go.Proofs.Ytcmmchpofkoddaa.Ex.AV.bool Bool.false, { blks := [], c := 0 })
                    else Option.some (Go.Proofs.Ytcmmchpofkoddaa.Ex.AV.bool Bool.false, { blks := [], c := 0 })
                else Option.some (Go.Proofs.Ytcmmchpofkoddaa.Ex.AV.bool Bool.false, { blks := [], c := 0 })
              else
                bif Bool.false == Go.Proofs.Ytcmmchpofkoddaa.Ex.leqB (Go.Proofs.Ytcmmchpofkoddaa.Ex.iJoin x y) z then
                  bif Go.Proofs.Ytcmmchpofkoddaa.Ex.leqB z x then
                    bif Go.Proofs.Ytcmmchpofkoddaa.Ex.leqB z y == Go.Proofs.Ytcmmchpofkoddaa.Ex.leqB z (Go.Proofs.Ytcmmchpofkoddaa.Ex.iMeet x y) then
                      bif (Go.Proofs.Ytcmmchpofkoddaa.Ex.iJoin x y).fst == (Go.Proofs.Ytcmmchpofkoddaa.Ex.iJoin y x).fst && (Go.Proofs.Ytcmmchpofkoddaa.Ex.iJoin x y).snd == (Go.Proofs.Ytcmmchpofkoddaa.Ex.iJoin y x).snd then
                        bif (Go.Proofs.Ytcmmchpofkoddaa.Ex.iMeet x y).fst == (Go.Proofs.Ytcmmchpofkoddaa.Ex.iMeet y x).fst && (Go.Proofs.Ytcmmchpofkoddaa.Ex.iMeet x y).snd == (Go.Proofs.Ytcmmchpofkoddaa.Ex.iMeet y x).snd then Option.some (Go.Proofs.Ytcmmchpofkoddaa.Ex.AV.bool Bool.true, { blks := [], c := 0 })
                        else Option.some (Go.Proofs.Ytcmmchpofkoddaa.Ex.AV.bool Bool.false, { blks := [], c := 0 })
                      else Option.some (Go.Proofs.Ytcmmchpofkoddaa.Ex.AV.bool Bool.false, { blks := [], c := 0 })
                    else Option.some (Go.Proofs.Ytcmmchpofkoddaa.Ex.AV.bool Bool.false, { blks := [], c := 0 })
                  else
                    bif Bool.false == Go.Proofs.Ytcmmchpofkoddaa.Ex.leqB z (Go.Proofs.Ytcmmchpofkoddaa.Ex.iMeet x y) then
                      bif (Go.Proofs.Ytcmmchpofkoddaa.Ex.iJoin x y).fst == (Go.Proofs.Ytcmmchpofkoddaa.Ex.iJoin y x).fst && (Go.Proofs.Ytcmmchpofkoddaa.Ex.iJoin x y).snd == (Go.Proofs.Ytcmmchpofkoddaa.Ex.iJoin y x).snd then
                        bif (Go.Proofs.Ytcmmchpofkoddaa.Ex.iMeet x y).fst == (Go.Proofs.Ytcmmchpofkoddaa.Ex.iMeet y x).fst && (Go.Proofs.Ytcmmchpofkoddaa.Ex.iMeet x y).snd == (Go.Proofs.Ytcmmchpofkoddaa.Ex.iMeet y x).snd then Option.some (Go.Proofs.Ytcmmchpofkoddaa.Ex.AV.bool Bool.true, { blks := [], c := 0 })
                        else Option.some (Go.Proofs.Ytcmmchpofkoddaa.Ex.AV.bool Bool.false, { blks := [], c := 0 })
                      else Option.some (Go.Proofs.Ytcmmchpofkoddaa.Ex.AV.bool Bool.false, { blks := [], c := 0 })
                    else Option.some (Go.Proofs.Ytcmmchpofkoddaa.Ex.AV.bool Bool.false, { blks := [], c := 0 })
                else Option.some (Go.Proofs.Ytcmmchpofkoddaa.Ex.AV.bool Bool.false, { blks := [], c := 0 })
            else Option.some (Go.Proofs.Ytcmmchpofkoddaa.Ex.AV.bool Bool.false, { blks := [], c := 0 })
          else Option.some (Go.Proofs.Ytcmmchpofkoddaa.Ex.AV.bool Bool.false, { blks := [], c := 0 })
        else Option.some (Go.Proofs.Ytcmmchpofkoddaa.Ex.AV.bool Bool.false, { blks := [], c := 0 })
      else Option.some (Go.Proofs.Ytcmmchpofkoddaa.Ex.AV.bool Bool.false, { blks := [], c := 0 }) := by kernel_rfl
theorem join_l (x y : I) : leqB x (iJoin x y) = true := by
  simp only [leqB, iJoin, empB, nn, mn, mx, Bool.or_eq_true, Bool.and_eq_true, decide_eq_true_eq]
  (repeat' split) <;> simp_all <;> (try (repeat' split)) <;> omega
theorem join_comm (x y : I) : iJoin x y = iJoin y x := by
  simp only [iJoin, empB, nn, mn, mx, decide_eq_true_eq]
  (repeat' split) <;> simp_all <;> (try omega)
theorem meet_comm (x y : I) : iMeet x y = iMeet y x := by
  simp only [iMeet, empB, nn, mn, mx, decide_eq_true_eq]
  (repeat' split) <;> simp_all <;> (try omega)
theorem meet_l (x y : I) : leqB (iMeet x y) x = true := by
  simp only [leqB, iMeet, empB, nn, mn, mx, Bool.or_eq_true, Bool.and_eq_true, decide_eq_true_eq]
  (repeat' split) <;> simp_all <;> (try (repeat' split)) <;> omega
theorem join_le (x y z : I) : leqB (iJoin x y) z = (leqB x z && leqB y z) := by
  rw [Bool.eq_iff_iff]
  simp only [leqB, iJoin, empB, nn, mn, mx, Bool.or_eq_true, Bool.and_eq_true, decide_eq_true_eq]
  (repeat' split) <;> simp_all <;> (try (repeat' split)) <;> omega
theorem le_meet (x y z : I) : leqB z (iMeet x y) = (leqB z x && leqB z y) := by
  rw [Bool.eq_iff_iff]
  simp only [leqB, iMeet, empB, nn, mn, mx, Bool.or_eq_true, Bool.and_eq_true, decide_eq_true_eq]
  (repeat' split) <;> simp_all <;> (try (repeat' split)) <;> omega
set_option maxRecDepth 100000
theorem ok5 (x : I) (y : I) (z : I) : ev cx6 5 [aI x, aI y, aI z] = outV (.bool true) := by
  rw [raw5, join_comm y x, meet_comm y x, join_l x y, meet_l x y, join_le, le_meet, show leqB y (iJoin x y) = true by rw [join_comm]; exact join_l y x, show leqB (iMeet x y) y = true by rw [meet_comm]; exact meet_l y x]
  generalize (isB x && isB y) = a
  generalize isB z = b
  generalize leqB x z = c
  generalize leqB y z = d
  generalize leqB z x = e
  generalize leqB z y = f
  cases a <;> cases b <;> cases c <;> cases d <;> cases e <;> cases f <;> simp [outV]
theorem ownK : ownKnob Try.prog.godebug = none := by kernel_rfl
theorem laidOut : laidOutB Try.prog = true := by kernel_rfl
theorem law (x : DArgs [tI, tI, tI]) : ∃ fb, ex ((evF cx6 keeps 3 5 (avs [tI, tI, tI] x)).bind (finP true)) false ⟨[], 0⟩ ⟨[], []⟩ = some (.bool true, ⟨[], 0⟩, fb) :=
  ev_ex (ok5 x.1 x.2.1 x.2.2.1)
theorem lifted (os : Os) (started : os.Started) (H : Type) (enc : TypeId × Value → H) :
    ReturnsInHanded {} Try.checked os 5 .any (Rows.itvOrdersSpec.pre6 enc Try.prog Try.f5 Rows.itvOrdersRow.domain false) (Rows.itvOrdersSpec.post enc Try.prog Try.f5 false true false false) := by
  refine returnsInHanded_of_change (C := Try.checked) ownK started (by kernel_rfl) Try.func5
    (ChangeSpec.witness6 (enc := enc) (C := Try.checked) false ⟨#[], #[.agg #[.int .i64 0, .int .i64 0], .agg #[.int .i64 0, .int .i64 0], .agg #[.int .i64 0, .int .i64 0]], []⟩ 8 (by kernel_rfl) (by kernel_rfl) (by kernel_rfl) (by kernel_rfl)) ?_
  intro W base args ds gs before hval hW _ _
  refine law_calls (tab := tab) (fz := true) (tys := [tI, tI, tI]) (tb := 4) tab_ok laidOut (cal6 5) rfl (by kernel_rfl) rfl (by kernel_rfl) rfl (fun ds hds => ?_) (fun x _ => law x) hval hW
  match ds, hds with
  | [_, _, _], _ => rfl
theorem over : Rows.itvOrdersRow.holds Try.pinned (OpenSpec.ofChange Rows.itvOrdersSpec) :=
  OpenClaim.holds_of_wide 5 Try.f5 rfl rfl rfl rfl rfl rfl rfl ⟨rfl, rfl, rfl, rfl, rfl⟩ rfl rfl rfl rfl rfl (by kernel_rfl) Try.func5 (by kernel_rfl)
    (of_decide_eq_true (by kernel_rfl)) (by unfold Func.isWrapper; first | (rw [if_pos (by decide +kernel)]; kernel_rfl) | (rw [if_neg (by decide +kernel)]; exact ⟨rfl, rfl⟩))
    (fun os started H enc _ => lifted os started H enc)
end Go.Proofs.Ytcmmchpofkoddaa.Ex
namespace Go.Proofs.Ytcmmchpofkoddaa
theorem itvOrders_holds : Rows.ItvOrdersSaid := Ex.over
#print axioms itvOrders_holds
end Go.Proofs.Ytcmmchpofkoddaa
