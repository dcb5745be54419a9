/- For every input OuterHides returns true, and its arguments read as they did. No condition. -/
import Derived.Test.YtbdcblpjemmipaaGreatHA
import Derived.Test.YtbdcblpjemmipaaGreatHB
import Derived.Test.YtbdcblpjemmipaaGreatHC
import Derived.Test.YtbdcblpjemmipaaGreatHD
import Derived.Test.YtbdcblpjemmipaaGreatHE
import Derived.Test.YtbdcblpjemmipaaGreatHF
import Derived.Test.YtbdcblpjemmipaaGreatHG
import Derived.Test.YtbdcblpjemmipaaGreatHH
import Derived.Test.YtbdcblpjemmipaaGreatHI
import Derived.Test.YtbdcblpjemmipaaGreatHOuterHides0
import Derived.ProofKit
import Derived.Handed
import Derived.SizedLaws
import Derived.JoinedOf
namespace Go.Proofs.YtbdcblpjemmipaaGreat.Ex
open Go.Proofs Go.Proofs.YtbdcblpjemmipaaGreat
set_option maxRecDepth 100000
set_option linter.unusedVariables false
open Go.ChangeShapes Go.WideShapes Go.ChangeAt Go.RowKit
theorem ownK : ownKnob Tryz.prog.godebug = none := by kernel_rfl
theorem laidOut : laidOutB Tryz.prog = true := by kernel_rfl
theorem posOk : posB tab = true := by kernel_rfl
theorem read (x : ZvT [.int .i64, .int .i64, .bool, .bool]) : rds ZCi (avs [.int .i64, .int .i64, .bool, .bool] x) = some (x.1, x.2.1, x.2.2.1, x.2.2.2.1, ()) := by kernel_rfl
theorem law (x : ZvT [.int .i64, .int .i64, .bool, .bool]) (hx : ZXV reachBytes [.int .i64, .int .i64, .bool, .bool] x) : ∃ fb, ex ((ZCo (avs [.int .i64, .int .i64, .bool, .bool] x)).bind (finP true)) false ⟨[], 0⟩ ⟨[], []⟩ = some (.bool true, ⟨[], 0⟩, fb) :=
  Z68 (read x) (ZN1 _ x) (Z6g x.1 x.2.1 x.2.2.1 x.2.2.2.1)
theorem lifted (os : Os) (started : os.Started) (H : Type) (enc : TypeId × Value → H) :
    ReturnsInHanded {} Tryz.checked os 3 .any (Rows.outerHidesSpec.pre6 enc Tryz.prog Tryz.f3 Rows.outerHidesRow.domain false) (Rows.outerHidesSpec.post enc Tryz.prog Tryz.f3 false true false false) := by
  refine returnsInHanded_of_change_sized (C := Tryz.checked) ownK started (by kernel_rfl) Tryz.func3
    (ChangeSpec.witness6 (enc := enc) (C := Tryz.checked) false ⟨#[], #[.int .i64 0, .int .i64 0, .bool false, .bool false], []⟩ 12 (by kernel_rfl) (by kernel_rfl) (by kernel_rfl) (by kernel_rfl)) ?_
  intro W base args ds gs before hval hW _ hz _
  refine Z58 (tab := tab) (fz := true) (tys := [.int .i64, .int .i64, .bool, .bool]) (tb := 4) ZxW posOk laidOut ZYL rfl (by kernel_rfl) rfl (by kernel_rfl) rfl (fun ds hds => ?_) (fun x hx => law x hx) hval hW hz
  match ds, hds with
  | [_, _, _, _], _ => rfl
theorem over : Rows.outerHidesRow.holds Tryz.pinned (OpenSpec.ofChange Rows.outerHidesSpec) :=
  OpenClaim.holds_of_wide 3 Tryz.f3 rfl rfl rfl rfl rfl rfl rfl ⟨rfl, rfl, rfl, rfl, rfl⟩ rfl rfl rfl rfl rfl (by kernel_rfl) Tryz.func3 (by kernel_rfl)
    (of_decide_eq_true (by kernel_rfl)) (by unfold Func.isWrapper; first | (rw [if_pos (by decide +kernel)]; kernel_rfl) | (rw [if_neg (by decide +kernel)]; exact ⟨rfl, rfl⟩))
    (fun os started H enc _ => lifted os started H enc)
end Go.Proofs.YtbdcblpjemmipaaGreat.Ex
namespace Go.Proofs.YtbdcblpjemmipaaGreat
theorem outerHides_holds : Rows.OuterHidesSaid := Ex.over
#print axioms outerHides_holds
end Go.Proofs.YtbdcblpjemmipaaGreat
