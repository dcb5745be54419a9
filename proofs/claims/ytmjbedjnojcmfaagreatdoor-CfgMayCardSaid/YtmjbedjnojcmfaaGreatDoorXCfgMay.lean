/- For every input CfgMay returns true, and its arguments read as they did. No condition; the listed tables of package utf8 are as the card says. -/
import Derived.Test.YtmjbedjnojcmfaaGreatDoorMA
import Derived.Test.YtmjbedjnojcmfaaGreatDoorMB
import Derived.Test.YtmjbedjnojcmfaaGreatDoorMC
import Derived.Test.YtmjbedjnojcmfaaGreatDoorMD
import Derived.Test.YtmjbedjnojcmfaaGreatDoorME
import Derived.Test.YtmjbedjnojcmfaaGreatDoorMF
import Derived.Test.YtmjbedjnojcmfaaGreatDoorMG
import Derived.Test.YtmjbedjnojcmfaaGreatDoorMH
import Derived.Test.YtmjbedjnojcmfaaGreatDoorCards
import Derived.Test.YtmjbedjnojcmfaaGreatDoorTie
import Derived.ProofKit
import Derived.Handed
import Derived.SizedLaws
import Derived.JoinedOf
import Derived.OpenShut
import Derived.LaidMore
import Derived.Lay
import Derived.SevenTiedAt
import Derived.Stop.Joined
namespace Go.Proofs.YtmjbedjnojcmfaaGreatDoor.Ex
open Go.Proofs Go.Proofs.YtmjbedjnojcmfaaGreatDoor
set_option maxRecDepth 100000
set_option linter.unusedVariables false
open Go.ChangeShapes Go.WideShapes Go.ChangeAt Go.RowKit
theorem ownK : ownKnob Tryz.prog.godebug = none := by kernel_rfl
theorem laidOut : laidOutB Tryz.prog = true := by kernel_rfl
theorem posOk : posB tab = true := by kernel_rfl
theorem read (x : DArgs [tU, tU]) : rds ash_law8_CfgMay (avs [tU, tU] x) = some (x.1, x.2.1, ()) := by kernel_rfl
theorem law (x : DArgs [tU, tU]) (hx : DOksS reachBytes [tU, tU] x) : ∃ fb, ex ((con_law8_CfgMay (avs [tU, tU] x)).bind (finP true)) false ⟨[], 0⟩ ⟨[], []⟩ = some (.bool true, ⟨[], 0⟩, fb) :=
  law_con (read x) (avs_ids _ x) (cfgMay x.1 x.2.1 (sizeU_of hx.1) (sizeU_of hx.2.1))
def ldL : List (String × DataW Unit) := [("unicode/utf8.acceptRanges", Rows.laid_unicode_utf8_acceptRanges), ("unicode/utf8.first", Rows.laid_unicode_utf8_first)]
theorem lifted (os : Os) (started : os.Started) (H : Type) (enc : TypeId × Value → H) :
    ReturnsInHanded {} Tryz.checked os 5 .any (fun w args => (Rows.cfgMaySpec.pre enc Tryz.prog Tryz.f5 Rows.cfgMayRow.domain false w args ∧ laidMetH Tryz.prog ldL w) ∧ sizedMet enc Tryz.prog Tryz.f5 (OpenSpec.ofChange Rows.cfgMaySpec) false w args) (Rows.cfgMaySpec.post enc Tryz.prog Tryz.f5 false true false false) := by
  refine returnsInHanded_of_change_and (C := Tryz.checked) (X := fun w _ => laidMetH Tryz.prog ldL w) (fun _ _ _ hh h => h.of_heap hh) ownK started (by kernel_rfl) Tryz.func5
    (ChangeSpec.witness_shaped (enc := enc) (C := Tryz.checked) (os := os) (X := fun w _ => laidMetH Tryz.prog ldL w) false (World.laidAll Tryz.prog os ldL) #[.agg #[.slice none 0 0, .slice none 0 0, .int .i64 0, .slice none 0 0], .agg #[.slice none 0 0, .slice none 0 0, .int .i64 0, .slice none 0 0]] 12 (World.laidAll_os _ _ _)
      (World.shaped_of_ZipB (by kernel_rfl) (by kernel_rfl)) (by kernel_rfl) (by kernel_rfl) (by kernel_rfl)
      (by rw [MakeChecks.laidMetH_plain _ _ _ (by kernel_rfl)]; exact laidMet_laidAll _ (by kernel_rfl) (by kernel_rfl))) ?_
  intro W base args ds gs before hval hW _ hz _ _
  refine law_callsS (tab := tab) (fz := true) (tys := [tU, tU]) (tb := 4) tab_ok posOk laidOut snd_law8_CfgMay rfl (by kernel_rfl) rfl (by kernel_rfl) rfl (fun ds hds => ?_) (fun x hx => law x hx) hval hW hz
  match ds, hds with
  | [_, _], _ => rfl
theorem over : Rows.cfgMayRow.holds Tryz.pinned (OpenSpec.ofChange Rows.cfgMaySpec) :=
  OpenClaim.holds_of_wide 5 Tryz.f5 rfl rfl rfl rfl rfl rfl rfl ⟨rfl, rfl, rfl, rfl, rfl⟩ rfl rfl rfl rfl rfl (by kernel_rfl) Tryz.func5 (by kernel_rfl)
    (of_decide_eq_true (by kernel_rfl)) (by unfold Func.isWrapper; first | (rw [if_pos (by decide +kernel)]; kernel_rfl) | (rw [if_neg (by decide +kernel)]; exact ⟨rfl, rfl⟩))
    (fun os started H enc _ => lifted os started H enc)
theorem card : Rows.CfgMayCardSaid :=
  Claim7.holds_tied_plain_at .later [] [.data, .pinned] true (true, "7b8db522326e7bb989976adb39720ebe7cce5c6f2d7ba34d08cf3b2cf3e75b7b") false
    over (fun _ h => by cases h) (by kernel_rfl) (fun _ h => by cases h) cfgMay_row_tie rfl ⟨rfl, rfl⟩ (by kernel_rfl) rfl
    (fun f fn hf hfn => by
      obtain rfl : f = 5 := (Option.some.inj ((show Tryz.prog.funcNamed "meddler/meddlerlaw8.CfgMay" = some 5 by kernel_rfl).symm.trans hf)).symm
      obtain rfl : fn = Tryz.f5 := (Option.some.inj (Tryz.func5.symm.trans hfn)).symm
      refine ⟨by kernel_rfl, fun j t ht => ?_⟩
      rw [Tryz.params5] at ht
      rcases j with _ | _ | j
      · have h : t = 42 := by simpa using ht.symm
        subst h
        exact (show Tryz.prog.wantsStandIn 42 = false by kernel_rfl)
      · have h : t = 42 := by simpa using ht.symm
        subst h
        exact (show Tryz.prog.wantsStandIn 42 = false by kernel_rfl)
      · simp at ht)
    (by kernel_rfl)
end Go.Proofs.YtmjbedjnojcmfaaGreatDoor.Ex
namespace Go.Proofs.YtmjbedjnojcmfaaGreatDoor
theorem cfgMay_holds : Rows.CfgMayCardSaid := Ex.card
#print axioms cfgMay_holds
end Go.Proofs.YtmjbedjnojcmfaaGreatDoor
