/- For every input CheckMany returns true, and its arguments read as they did. No condition; the listed tables of package utf8 are as the card says. -/
import Derived.Test.YtmjbedjnojcmfaaDoorQA
import Derived.Test.YtmjbedjnojcmfaaDoorQB
import Derived.Test.YtmjbedjnojcmfaaDoorQC
import Derived.Test.YtmjbedjnojcmfaaDoorQD
import Derived.Test.YtmjbedjnojcmfaaDoorQE
import Derived.Test.YtmjbedjnojcmfaaDoorQF
import Derived.Test.YtmjbedjnojcmfaaDoorQG
import Derived.Test.YtmjbedjnojcmfaaDoorCards
import Derived.Test.YtmjbedjnojcmfaaDoorTie
import Derived.ProofKit
import Derived.Handed
import Derived.SizedLaws
import Derived.JoinedOf
import Derived.OpenShut
import Derived.LaidMore
import Derived.Lay
import Derived.SevenTiedAt
import Derived.Stop.Joined
namespace Go.Proofs.YtmjbedjnojcmfaaDoor.Ex
open Go.Proofs Go.Proofs.YtmjbedjnojcmfaaDoor
set_option maxRecDepth 100000
set_option linter.unusedVariables false
open Go.ChangeShapes Go.WideShapes Go.ChangeAt Go.RowKit
theorem ownK : ownKnob Tryd.prog.godebug = none := by kernel_rfl
theorem laidOut : laidOutB Tryd.prog = true := by kernel_rfl
theorem posOk : posB tab = true := by kernel_rfl
theorem read (x : DArgs [.int .i64, .int .i64]) : rds ash_law7_CheckMany (avs [.int .i64, .int .i64] x) = some (x.1, x.2.1, ()) := by kernel_rfl
theorem law (x : DArgs [.int .i64, .int .i64]) (hx : DOksS reachBytes [.int .i64, .int .i64] x) : ∃ fb, ex ((con_law7_CheckMany (avs [.int .i64, .int .i64] x)).bind (finP true)) false ⟨[], 0⟩ ⟨[], []⟩ = some (.bool true, ⟨[], 0⟩, fb) :=
  checkMany x.1 x.2.1 (read x) (avs_ids _ x) (by rfl) (by rfl)
def ldWs : List (String × DataW Unit) := [("unicode/utf8.acceptRanges", Rows.laid_unicode_utf8_acceptRanges), ("unicode/utf8.first", Rows.laid_unicode_utf8_first)]
theorem lifted (os : Os) (started : os.Started) (H : Type) (enc : TypeId × Value → H) :
    ReturnsInHanded {} Tryd.checked os 5 .any (fun w args => (Rows.checkManySpec.pre enc Tryd.prog Tryd.f5 Rows.checkManyRow.domain false w args ∧ laidMetH Tryd.prog ldWs w) ∧ sizedMet enc Tryd.prog Tryd.f5 (OpenSpec.ofChange Rows.checkManySpec) false w args) (Rows.checkManySpec.post enc Tryd.prog Tryd.f5 false true false false) := by
  refine returnsInHanded_of_change_and (C := Tryd.checked) (X := fun w _ => laidMetH Tryd.prog ldWs w) (fun _ _ _ hh h => h.of_heap hh) ownK started (by kernel_rfl) Tryd.func5
    (ChangeSpec.witness_shaped (enc := enc) (C := Tryd.checked) (os := os) (X := fun w _ => laidMetH Tryd.prog ldWs w) false (World.laidAll Tryd.prog os ldWs) #[.int .i64 0, .int .i64 0] 12 (World.laidAll_os _ _ _)
      (World.shaped_of_ZipB (by kernel_rfl) (by kernel_rfl)) (by kernel_rfl) (by kernel_rfl) (by kernel_rfl)
      (by rw [MakeChecks.laidMetH_plain _ _ _ (by kernel_rfl)]; exact laidMet_laidAll _ (by kernel_rfl) (by kernel_rfl))) ?_
  intro W base args ds gs before hval hW _ hz _ _
  refine law_callsS (tab := tab) (fz := true) (tys := [.int .i64, .int .i64]) (tb := 4) tab_ok posOk laidOut snd_law7_CheckMany rfl (by kernel_rfl) rfl (by kernel_rfl) rfl (fun ds hds => ?_) (fun x hx => law x hx) hval hW hz
  match ds, hds with
  | [_, _], _ => rfl
theorem over : Rows.checkManyRow.holds Tryd.pinned (OpenSpec.ofChange Rows.checkManySpec) :=
  OpenClaim.holds_of_wide 5 Tryd.f5 rfl rfl rfl rfl rfl rfl rfl ⟨rfl, rfl, rfl, rfl, rfl⟩ rfl rfl rfl rfl rfl (by kernel_rfl) Tryd.func5 (by kernel_rfl)
    (of_decide_eq_true (by kernel_rfl)) (by unfold Func.isWrapper; first | (rw [if_pos (by decide +kernel)]; kernel_rfl) | (rw [if_neg (by decide +kernel)]; exact ⟨rfl, rfl⟩))
    (fun os started H enc _ => lifted os started H enc)
theorem card : Rows.CheckManyCardSaid :=
  Claim7.holds_tied_plain_at .later [] [.data, .pinned] true (true, "d072a78bfa068f7b2a6c4c6113ba386be64ee9ab5bf15603bbaa2659a15d7f02") false
    over (fun _ h => by cases h) (by kernel_rfl) (fun _ h => by cases h) checkMany_row_tie rfl ⟨rfl, rfl⟩ (by kernel_rfl) rfl
    (fun f fn hf hfn => by
      obtain rfl : f = 5 := (Option.some.inj ((show Tryd.prog.funcNamed "meddler/meddlerlaw7.CheckMany" = some 5 by kernel_rfl).symm.trans hf)).symm
      obtain rfl : fn = Tryd.f5 := (Option.some.inj (Tryd.func5.symm.trans hfn)).symm
      refine ⟨by kernel_rfl, fun j t ht => ?_⟩
      rw [Tryd.params5] at ht
      rcases j with _ | _ | j
      · have h : t = 3 := by simpa using ht.symm
        subst h
        exact (show Tryd.prog.wantsStandIn 3 = false by kernel_rfl)
      · have h : t = 3 := by simpa using ht.symm
        subst h
        exact (show Tryd.prog.wantsStandIn 3 = false by kernel_rfl)
      · simp at ht)
    (by kernel_rfl)
end Go.Proofs.YtmjbedjnojcmfaaDoor.Ex
namespace Go.Proofs.YtmjbedjnojcmfaaDoor
theorem checkMany_holds : Rows.CheckManyCardSaid := Ex.card
#print axioms checkMany_holds
end Go.Proofs.YtmjbedjnojcmfaaDoor
