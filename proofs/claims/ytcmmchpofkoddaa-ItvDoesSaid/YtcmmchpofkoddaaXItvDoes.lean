/- For every input ItvDoes returns true, and its arguments read as they did. No condition. -/
import Derived.Test.YtcmmchpofkoddaaXG
import Derived.ProofKit
import Derived.Handed
import Derived.JoinedOf
namespace Go.Proofs.Ytcmmchpofkoddaa.Ex
open Go.Proofs Go.Proofs.Ytcmmchpofkoddaa
set_option maxRecDepth 100000
set_option linter.unusedSimpArgs false
set_option linter.unusedVariables false
def sp6 : Nat → Option (List AV → Prog AV)
  | 31 => some (specP true M31)
  | 20 => some (specP true M20)
  | 39 => some (specP true M39)
  | 51 => some (specP true M51)
  | 37 => some (specP true M37)
  | 38 => some (specP true M38)
  | 29 => some (specP true M29)
  | 23 => some (specP true M23)
  | 33 => some (specP true M33)
  | 58 => some (specP true M58)
  | 26 => some (specP true M26)
  | 27 => some (specP true M27)
  | 34 => some (specP true M34)
  | 24 => some (specP true M24)
  | 28 => some (specP true M28)
  | 57 => some (specP true M57)
  | 25 => some (specP true M25)
  | 21 => some (specP true M21)
  | 22 => some (specP true M22)
  | 41 => some (specP true M41)
  | 59 => some (specP true M59)
  | 50 => some (specP true M50)
  | 16 => some (specP true M16)
  | 35 => some (specP true M35)
  | 47 => some (specP true M47)
  | 52 => some (specP true M52)
  | 60 => some (specP true M60)
  | 55 => some (specP true M55)
  | 42 => some (specP true M42)
  | 43 => some (specP true M43)
  | 56 => some (specP true M56)
  | 40 => some (specP true M40)
  | 53 => some (specP true M53)
  | 49 => some (specP true M49)
  | 54 => some (specP true M54)
  | 30 => some (specP true M30)
  | 45 => some (specP true M45)
  | 17 => some (specP true M17)
  | 18 => some (specP true M18)
  | 19 => some (specP true M19)
  | _ => none
noncomputable def cx6 : Ctx := { tab := tab, spec := sp6, inl := inl, lps := fun _ _ => none, fuel := 10 }
theorem hsp6 : ∀ g p, cx6.spec g = some p → SoundA Try.prog g p := by
  intro g p h
  change sp6 g = some p at h
  unfold sp6 at h
  split at h
  · cases h; exact snd31
  · cases h; exact snd20
  · cases h; exact snd39
  · cases h; exact snd51
  · cases h; exact snd37
  · cases h; exact snd38
  · cases h; exact snd29
  · cases h; exact snd23
  · cases h; exact snd33
  · cases h; exact snd58
  · cases h; exact snd26
  · cases h; exact snd27
  · cases h; exact snd34
  · cases h; exact snd24
  · cases h; exact snd28
  · cases h; exact snd57
  · cases h; exact snd25
  · cases h; exact snd21
  · cases h; exact snd22
  · cases h; exact snd41
  · cases h; exact snd59
  · cases h; exact snd50
  · cases h; exact snd16
  · cases h; exact snd35
  · cases h; exact snd47
  · cases h; exact snd52
  · cases h; exact snd60
  · cases h; exact snd55
  · cases h; exact snd42
  · cases h; exact snd43
  · cases h; exact snd56
  · cases h; exact snd40
  · cases h; exact snd53
  · cases h; exact snd49
  · cases h; exact snd54
  · cases h; exact snd30
  · cases h; exact snd45
  · cases h; exact snd17
  · cases h; exact snd18
  · cases h; exact snd19
  · cases h
theorem in6 : InlOk Try.prog cx6 := ⟨inl_ok, fun _ _ _ _ _ _ _ _ h => nomatch h⟩
theorem cal6 (g : Nat) : SoundA Try.prog g (evF cx6 keeps 3 g) := evF_sound (tabOk_of tab_ok) (cmpsOk_of tab_ok cmps_ok) mixed in6 hsp6 keeps 3 g
open Go.ChangeShapes Go.WideShapes Go.ChangeAt Go.RowKit
theorem raw3 (op : Int) (x : I) (y : I) : ev cx6 3 [aN op, aI x, aI y] =
  bif !(Go.Proofs.Ytcmmchpofkoddaa.Ex.isB x && Go.Proofs.Ytcmmchpofkoddaa.Ex.isB y) then Option.some (Go.Proofs.Ytcmmchpofkoddaa.Ex.AV.bool Bool.true, { blks := [], c := 0 })
  else
    bif Go.Proofs.Ytcmmchpofkoddaa.Ex.isB x && Go.Proofs.Ytcmmchpofkoddaa.Ex.isB y then
      bif Go.Proofs.Ytcmmchpofkoddaa.Ex.isB x && Go.Proofs.Ytcmmchpofkoddaa.Ex.isB y then
        bif (Go.Proofs.Ytcmmchpofkoddaa.Ex.doI op x y).fst.fst == (Go.Proofs.Ytcmmchpofkoddaa.Ex.rdoI op x y).fst.fst && (Go.Proofs.Ytcmmchpofkoddaa.Ex.doI op x y).fst.snd == (Go.Proofs.Ytcmmchpofkoddaa.Ex.rdoI op x y).fst.snd then
          bif (Go.Proofs.Ytcmmchpofkoddaa.Ex.doI op x y).snd.fst == (Go.Proofs.Ytcmmchpofkoddaa.Ex.rdoI op x y).snd.fst then
            bif (Go.Proofs.Ytcmmchpofkoddaa.Ex.doI op x y).snd.snd == (Go.Proofs.Ytcmmchpofkoddaa.Ex.rdoI op x y).snd.snd then Option.some (Go.Proofs.Ytcmmchpofkoddaa.Ex.AV.bool Bool.true, { blks := [], c := 0 })
            else Option.some (Go.Proofs.Ytcmmchpofkoddaa.Ex.AV.bool Bool.false, { blks := [], c := 0 })
          else Option.some (Go.Proofs.Ytcmmchpofkoddaa.Ex.AV.bool Bool.false, { blks := [], c := 0 })
        else Option.some (Go.Proofs.Ytcmmchpofkoddaa.Ex.AV.bool Bool.false, { blks := [], c := 0 })
      else Option.none
    else Option.none := by kernel_rfl
theorem ok3 (op : Int) (x : I) (y : I) : ev cx6 3 [aN op, aI x, aI y] = outV (.bool true) := by
  rw [raw3, doI_eq]
  cases isB x && isB y <;> simp [outV]
theorem ownK : ownKnob Try.prog.godebug = none := by kernel_rfl
theorem laidOut : laidOutB Try.prog = true := by kernel_rfl
theorem law3 (x : DArgs [.int .i64, tI, tI]) : ∃ fb, ex ((evF cx6 keeps 3 3 (avs [.int .i64, tI, tI] x)).bind (finP true)) false ⟨[], 0⟩ ⟨[], []⟩ = some (.bool true, ⟨[], 0⟩, fb) :=
  ev_ex (ok3 x.1 x.2.1 x.2.2.1)
theorem lifted (os : Os) (started : os.Started) (H : Type) (enc : TypeId × Value → H) :
    ReturnsInHanded {} Try.checked os 3 .any (Rows.itvDoesSpec.pre6 enc Try.prog Try.f3 Rows.itvDoesRow.domain false) (Rows.itvDoesSpec.post enc Try.prog Try.f3 false true false false) := by
  refine returnsInHanded_of_change (C := Try.checked) ownK started (by kernel_rfl) Try.func3
    (ChangeSpec.witness6 (enc := enc) (C := Try.checked) false ⟨#[], #[.int .i64 0, .agg #[.int .i64 0, .int .i64 0], .agg #[.int .i64 0, .int .i64 0]], []⟩ 8 (by kernel_rfl) (by kernel_rfl) (by kernel_rfl) (by kernel_rfl)) ?_
  intro W base args ds gs before hval hW _ _
  refine law_calls (tab := tab) (fz := true) (tys := [.int .i64, tI, tI]) (tb := 4) tab_ok laidOut (cal6 3) rfl (by kernel_rfl) rfl (by kernel_rfl) rfl (fun ds hds => ?_) (fun x _ => law3 x) hval hW
  match ds, hds with
  | [_, _, _], _ => rfl
theorem over : Rows.itvDoesRow.holds Try.pinned (OpenSpec.ofChange Rows.itvDoesSpec) :=
  OpenClaim.holds_of_wide 3 Try.f3 rfl rfl rfl rfl rfl rfl rfl ⟨rfl, rfl, rfl, rfl, rfl⟩ rfl rfl rfl rfl rfl (by kernel_rfl) Try.func3 (by kernel_rfl)
    (of_decide_eq_true (by kernel_rfl)) (by unfold Func.isWrapper; first | (rw [if_pos (by decide +kernel)]; kernel_rfl) | (rw [if_neg (by decide +kernel)]; exact ⟨rfl, rfl⟩))
    (fun os started H enc _ => lifted os started H enc)
end Go.Proofs.Ytcmmchpofkoddaa.Ex
namespace Go.Proofs.Ytcmmchpofkoddaa
theorem itvDoes_holds : Rows.ItvDoesSaid := Ex.over
#print axioms itvDoes_holds
end Go.Proofs.Ytcmmchpofkoddaa
