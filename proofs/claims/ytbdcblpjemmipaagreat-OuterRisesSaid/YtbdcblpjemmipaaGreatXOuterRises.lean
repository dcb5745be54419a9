/- For every input OuterRises returns true, and its arguments read as they did. No condition. -/
import Derived.Test.YtbdcblpjemmipaaGreatHA
import Derived.Test.YtbdcblpjemmipaaGreatHB
import Derived.Test.YtbdcblpjemmipaaGreatHC
import Derived.Test.YtbdcblpjemmipaaGreatHD
import Derived.Test.YtbdcblpjemmipaaGreatHE
import Derived.Test.YtbdcblpjemmipaaGreatHF
import Derived.Test.YtbdcblpjemmipaaGreatHG
import Derived.Test.YtbdcblpjemmipaaGreatHH
import Derived.Test.YtbdcblpjemmipaaGreatHI
import Derived.Test.YtbdcblpjemmipaaGreatHOuterRises0
import Derived.ProofKit
import Derived.Handed
import Derived.SizedLaws
import Derived.JoinedOf
namespace Go.Proofs.YtbdcblpjemmipaaGreat.Ex
open Go.Proofs Go.Proofs.YtbdcblpjemmipaaGreat
set_option maxRecDepth 100000
set_option linter.unusedVariables false
open Go.ChangeShapes Go.WideShapes Go.ChangeAt Go.RowKit
theorem ownK : ownKnob Tryz.prog.godebug = none := by kernel_rfl
theorem laidOut : laidOutB Tryz.prog = true := by kernel_rfl
theorem posOk : posB tab = true := by kernel_rfl
theorem read (x : ZvT [.int .i64]) : rds Z70 (avs [.int .i64] x) = some (x.1, ()) := by kernel_rfl
theorem law (x : ZvT [.int .i64]) (hx : ZXV reachBytes [.int .i64] x) : ∃ fb, ex ((Z71 (avs [.int .i64] x)).bind (finP true)) false ⟨[], 0⟩ ⟨[], []⟩ = some (.bool true, ⟨[], 0⟩, fb) :=
  Z68 (read x) (ZN1 _ x) (Z9m x.1)
theorem lifted (os : Os) (started : os.Started) (H : Type) (enc : TypeId × Value → H) :
    ReturnsInHanded {} Tryz.checked os 4 .any (Rows.outerRisesSpec.pre6 enc Tryz.prog Tryz.f4 Rows.outerRisesRow.domain false) (Rows.outerRisesSpec.post enc Tryz.prog Tryz.f4 false true false false) := by
  refine returnsInHanded_of_change_sized (C := Tryz.checked) ownK started (by kernel_rfl) Tryz.func4
    (ChangeSpec.witness6 (enc := enc) (C := Tryz.checked) false ⟨#[], #[.int .i64 0], []⟩ 12 (by kernel_rfl) (by kernel_rfl) (by kernel_rfl) (by kernel_rfl)) ?_
  intro W base args ds gs before hval hW _ hz _
  refine Z58 (tab := tab) (fz := true) (tys := [.int .i64]) (tb := 4) ZxW posOk laidOut Z8d rfl (by kernel_rfl) rfl (by kernel_rfl) rfl (fun ds hds => ?_) (fun x hx => law x hx) hval hW hz
  match ds, hds with
  | [_], _ => rfl
theorem over : Rows.outerRisesRow.holds Tryz.pinned (OpenSpec.ofChange Rows.outerRisesSpec) :=
  OpenClaim.holds_of_wide 4 Tryz.f4 rfl rfl rfl rfl rfl rfl rfl ⟨rfl, rfl, rfl, rfl, rfl⟩ rfl rfl rfl rfl rfl (by kernel_rfl) Tryz.func4 (by kernel_rfl)
    (of_decide_eq_true (by kernel_rfl)) (by unfold Func.isWrapper; first | (rw [if_pos (by decide +kernel)]; kernel_rfl) | (rw [if_neg (by decide +kernel)]; exact ⟨rfl, rfl⟩))
    (fun os started H enc _ => lifted os started H enc)
end Go.Proofs.YtbdcblpjemmipaaGreat.Ex
namespace Go.Proofs.YtbdcblpjemmipaaGreat
theorem outerRises_holds : Rows.OuterRisesSaid := Ex.over
#print axioms outerRises_holds
end Go.Proofs.YtbdcblpjemmipaaGreat
