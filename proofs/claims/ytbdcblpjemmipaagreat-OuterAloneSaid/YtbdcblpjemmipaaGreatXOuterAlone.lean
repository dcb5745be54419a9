/- For every input OuterAlone returns true, and its arguments read as they did. No condition. -/
import Derived.Test.YtbdcblpjemmipaaGreatHA
import Derived.Test.YtbdcblpjemmipaaGreatHB
import Derived.Test.YtbdcblpjemmipaaGreatHC
import Derived.Test.YtbdcblpjemmipaaGreatHD
import Derived.Test.YtbdcblpjemmipaaGreatHE
import Derived.Test.YtbdcblpjemmipaaGreatHF
import Derived.Test.YtbdcblpjemmipaaGreatHG
import Derived.Test.YtbdcblpjemmipaaGreatHH
import Derived.Test.YtbdcblpjemmipaaGreatHI
import Derived.Test.YtbdcblpjemmipaaGreatHOuterAlone0
import Derived.ProofKit
import Derived.Handed
import Derived.SizedLaws
import Derived.JoinedOf
namespace Go.Proofs.YtbdcblpjemmipaaGreat.Ex
open Go.Proofs Go.Proofs.YtbdcblpjemmipaaGreat
set_option maxRecDepth 100000
set_option linter.unusedVariables false
open Go.ChangeShapes Go.WideShapes Go.ChangeAt Go.RowKit
theorem ownK : ownKnob Tryz.prog.godebug = none := by kernel_rfl
theorem laidOut : laidOutB Tryz.prog = true := by kernel_rfl
theorem posOk : posB tab = true := by kernel_rfl
theorem read (x : ZvT [tU, .int .i64]) : rds Z9F (avs [tU, .int .i64] x) = some (x.1, x.2.1, ()) := by kernel_rfl
theorem law (x : ZvT [tU, .int .i64]) (hx : ZXV reachBytes [tU, .int .i64] x) : ∃ fb, ex ((Z9G (avs [tU, .int .i64] x)).bind (finP true)) false ⟨[], 0⟩ ⟨[], []⟩ = some (.bool true, ⟨[], 0⟩, fb) :=
  Z68 (read x) (ZN1 _ x) (Qab x.1 x.2.1 (Z6Y hx.1))
theorem lifted (os : Os) (started : os.Started) (H : Type) (enc : TypeId × Value → H) :
    ReturnsInHanded {} Tryz.checked os 15 .any (Rows.outerAloneSpec.pre6 enc Tryz.prog Tryz.f15 Rows.outerAloneRow.domain false) (Rows.outerAloneSpec.post enc Tryz.prog Tryz.f15 false true false false) := by
  refine returnsInHanded_of_change_sized (C := Tryz.checked) ownK started (by kernel_rfl) Tryz.func15
    (ChangeSpec.witness6 (enc := enc) (C := Tryz.checked) false ⟨#[], #[.agg #[.slice none 0 0, .slice none 0 0, .int .i64 0, .slice none 0 0], .int .i64 0], []⟩ 12 (by kernel_rfl) (by kernel_rfl) (by kernel_rfl) (by kernel_rfl)) ?_
  intro W base args ds gs before hval hW _ hz _
  refine Z58 (tab := tab) (fz := true) (tys := [tU, .int .i64]) (tb := 4) ZxW posOk laidOut Z9U rfl (by kernel_rfl) rfl (by kernel_rfl) rfl (fun ds hds => ?_) (fun x hx => law x hx) hval hW hz
  match ds, hds with
  | [_, _], _ => rfl
theorem over : Rows.outerAloneRow.holds Tryz.pinned (OpenSpec.ofChange Rows.outerAloneSpec) :=
  OpenClaim.holds_of_wide 15 Tryz.f15 rfl rfl rfl rfl rfl rfl rfl ⟨rfl, rfl, rfl, rfl, rfl⟩ rfl rfl rfl rfl rfl (by kernel_rfl) Tryz.func15 (by kernel_rfl)
    (of_decide_eq_true (by kernel_rfl)) (by unfold Func.isWrapper; first | (rw [if_pos (by decide +kernel)]; kernel_rfl) | (rw [if_neg (by decide +kernel)]; exact ⟨rfl, rfl⟩))
    (fun os started H enc _ => lifted os started H enc)
end Go.Proofs.YtbdcblpjemmipaaGreat.Ex
namespace Go.Proofs.YtbdcblpjemmipaaGreat
theorem outerAlone_holds : Rows.OuterAloneSaid := Ex.over
#print axioms outerAlone_holds
end Go.Proofs.YtbdcblpjemmipaaGreat
