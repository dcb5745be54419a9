/- For every input CfgNumbers returns true, and its arguments read as they did. No condition; the listed tables of package utf8 are as the card says. -/
import Derived.Test.YtmjbedjnojcmfaaGreatDoorBA
import Derived.Test.YtmjbedjnojcmfaaGreatDoorBB
import Derived.Test.YtmjbedjnojcmfaaGreatDoorBC
import Derived.Test.YtmjbedjnojcmfaaGreatDoorBD
import Derived.Test.YtmjbedjnojcmfaaGreatDoorBE
import Derived.Test.YtmjbedjnojcmfaaGreatDoorBF
import Derived.Test.YtmjbedjnojcmfaaGreatDoorBG
import Derived.Test.YtmjbedjnojcmfaaGreatDoorBH
import Derived.Test.YtmjbedjnojcmfaaGreatDoorBI
import Derived.Test.YtmjbedjnojcmfaaGreatDoorCards
import Derived.Test.YtmjbedjnojcmfaaGreatDoorTie
import Derived.ProofKit
import Derived.Handed
import Derived.SizedLaws
import Derived.JoinedOf
import Derived.OpenShut
import Derived.LaidMore
import Derived.Lay
import Derived.SevenTiedAt
import Derived.Stop.Joined
namespace Go.Proofs.YtmjbedjnojcmfaaGreatDoor.Ex
open Go.Proofs Go.Proofs.YtmjbedjnojcmfaaGreatDoor
set_option maxRecDepth 100000
set_option linter.unusedVariables false
open Go.ChangeShapes Go.WideShapes Go.ChangeAt Go.RowKit
theorem ownK : ownKnob Tryz.prog.godebug = none := by kernel_rfl
theorem laidOut : laidOutB Tryz.prog = true := by kernel_rfl
theorem posOk : posB tab = true := by kernel_rfl
theorem read (x : DArgs [tU]) : rds ash_law8_CfgNumbers (avs [tU] x) = some (x.1, ()) := by kernel_rfl
theorem law (x : DArgs [tU]) (hx : DOksS reachBytes [tU] x) : ∃ fb, ex ((con_law8_CfgNumbers (avs [tU] x)).bind (finP true)) false ⟨[], 0⟩ ⟨[], []⟩ = some (.bool true, ⟨[], 0⟩, fb) :=
  law_con (read x) (avs_ids _ x) (cfgNumbers x.1 (sizeU_of hx.1))
def ldL : List (String × DataW Unit) := [("unicode/utf8.acceptRanges", Rows.laid_unicode_utf8_acceptRanges), ("unicode/utf8.first", Rows.laid_unicode_utf8_first)]
theorem lifted (os : Os) (started : os.Started) (H : Type) (enc : TypeId × Value → H) :
    ReturnsInHanded {} Tryz.checked os 6 .any (fun w args => (Rows.cfgNumbersSpec.pre enc Tryz.prog Tryz.f6 Rows.cfgNumbersRow.domain false w args ∧ laidMetH Tryz.prog ldL w) ∧ sizedMet enc Tryz.prog Tryz.f6 (OpenSpec.ofChange Rows.cfgNumbersSpec) false w args) (Rows.cfgNumbersSpec.post enc Tryz.prog Tryz.f6 false true false false) := by
  refine returnsInHanded_of_change_and (C := Tryz.checked) (X := fun w _ => laidMetH Tryz.prog ldL w) (fun _ _ _ hh h => h.of_heap hh) ownK started (by kernel_rfl) Tryz.func6
    (ChangeSpec.witness_shaped (enc := enc) (C := Tryz.checked) (os := os) (X := fun w _ => laidMetH Tryz.prog ldL w) false (World.laidAll Tryz.prog os ldL) #[.agg #[.slice none 0 0, .slice none 0 0, .int .i64 0, .slice none 0 0]] 12 (World.laidAll_os _ _ _)
      (World.shaped_of_ZipB (by kernel_rfl) (by kernel_rfl)) (by kernel_rfl) (by kernel_rfl) (by kernel_rfl)
      (by rw [MakeChecks.laidMetH_plain _ _ _ (by kernel_rfl)]; exact laidMet_laidAll _ (by kernel_rfl) (by kernel_rfl))) ?_
  intro W base args ds gs before hval hW _ hz _ _
  refine law_callsS (tab := tab) (fz := true) (tys := [tU]) (tb := 4) tab_ok posOk laidOut snd_law8_CfgNumbers rfl (by kernel_rfl) rfl (by kernel_rfl) rfl (fun ds hds => ?_) (fun x hx => law x hx) hval hW hz
  match ds, hds with
  | [_], _ => rfl
theorem over : Rows.cfgNumbersRow.holds Tryz.pinned (OpenSpec.ofChange Rows.cfgNumbersSpec) :=
  OpenClaim.holds_of_wide 6 Tryz.f6 rfl rfl rfl rfl rfl rfl rfl ⟨rfl, rfl, rfl, rfl, rfl⟩ rfl rfl rfl rfl rfl (by kernel_rfl) Tryz.func6 (by kernel_rfl)
    (of_decide_eq_true (by kernel_rfl)) (by unfold Func.isWrapper; first | (rw [if_pos (by decide +kernel)]; kernel_rfl) | (rw [if_neg (by decide +kernel)]; exact ⟨rfl, rfl⟩))
    (fun os started H enc _ => lifted os started H enc)
theorem card : Rows.CfgNumbersCardSaid :=
  Claim7.holds_tied_plain_at .later [] [.data, .pinned] true (true, "7b8db522326e7bb989976adb39720ebe7cce5c6f2d7ba34d08cf3b2cf3e75b7b") false
    over (fun _ h => by cases h) (by kernel_rfl) (fun _ h => by cases h) cfgNumbers_row_tie rfl ⟨rfl, rfl⟩ (by kernel_rfl) rfl
    (fun f fn hf hfn => by
      obtain rfl : f = 6 := (Option.some.inj ((show Tryz.prog.funcNamed "meddler/meddlerlaw8.CfgNumbers" = some 6 by kernel_rfl).symm.trans hf)).symm
      obtain rfl : fn = Tryz.f6 := (Option.some.inj (Tryz.func6.symm.trans hfn)).symm
      refine ⟨by kernel_rfl, fun j t ht => ?_⟩
      rw [Tryz.params6] at ht
      rcases j with _ | j
      · have h : t = 42 := by simpa using ht.symm
        subst h
        exact (show Tryz.prog.wantsStandIn 42 = false by kernel_rfl)
      · simp at ht)
    (by kernel_rfl)
end Go.Proofs.YtmjbedjnojcmfaaGreatDoor.Ex
namespace Go.Proofs.YtmjbedjnojcmfaaGreatDoor
theorem cfgNumbers_holds : Rows.CfgNumbersCardSaid := Ex.card
#print axioms cfgNumbers_holds
end Go.Proofs.YtmjbedjnojcmfaaGreatDoor
