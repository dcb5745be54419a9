/- For every input FixClosed returns true, and its arguments read as they did. No condition. -/
import Derived.Test.YtbdcblpjemmipaaGreatHA
import Derived.Test.YtbdcblpjemmipaaGreatHB
import Derived.Test.YtbdcblpjemmipaaGreatHC
import Derived.Test.YtbdcblpjemmipaaGreatHD
import Derived.Test.YtbdcblpjemmipaaGreatHE
import Derived.Test.YtbdcblpjemmipaaGreatHF
import Derived.Test.YtbdcblpjemmipaaGreatHG
import Derived.Test.YtbdcblpjemmipaaGreatHH
import Derived.Test.YtbdcblpjemmipaaGreatHI
import Derived.Test.YtbdcblpjemmipaaGreatHFixClosed0
import Derived.ProofKit
import Derived.Handed
import Derived.SizedLaws
import Derived.JoinedOf
namespace Go.Proofs.YtbdcblpjemmipaaGreat.Ex
open Go.Proofs Go.Proofs.YtbdcblpjemmipaaGreat
set_option maxRecDepth 100000
set_option linter.unusedVariables false
open Go.ChangeShapes Go.WideShapes Go.ChangeAt Go.RowKit
theorem ownK : ownKnob Tryz.prog.godebug = none := by kernel_rfl
theorem laidOut : laidOutB Tryz.prog = true := by kernel_rfl
theorem posOk : posB tab = true := by kernel_rfl
theorem read (x : ZvT [tU, .int .i64, .sl tEn, .sl tE]) : rds ZFo (avs [tU, .int .i64, .sl tEn, .sl tE] x) = some (x.1, x.2.1, x.2.2.1, x.2.2.2.1, ()) := by kernel_rfl
theorem law (x : ZvT [tU, .int .i64, .sl tEn, .sl tE]) (hx : ZXV reachBytes [tU, .int .i64, .sl tEn, .sl tE] x) : ∃ fb, ex ((ZFs (avs [tU, .int .i64, .sl tEn, .sl tE] x)).bind (finP true)) false ⟨[], 0⟩ ⟨[], []⟩ = some (.bool true, ⟨[], 0⟩, fb) :=
  Z68 (read x) (ZN1 _ x) (Z6n x.1 x.2.1 x.2.2.1 x.2.2.2.1 (Z6Y hx.1) (Z7p hx.2.2.1) (Z7p hx.2.2.2.1))
theorem lifted (os : Os) (started : os.Started) (H : Type) (enc : TypeId × Value → H) :
    ReturnsInHanded {} Tryz.checked os 11 .any (Rows.fixClosedSpec.pre6 enc Tryz.prog Tryz.f11 Rows.fixClosedRow.domain false) (Rows.fixClosedSpec.post enc Tryz.prog Tryz.f11 false true false false) := by
  refine returnsInHanded_of_change_sized (C := Tryz.checked) ownK started (by kernel_rfl) Tryz.func11
    (ChangeSpec.witness6 (enc := enc) (C := Tryz.checked) false ⟨#[], #[.agg #[.slice none 0 0, .slice none 0 0, .int .i64 0, .slice none 0 0], .int .i64 0, .slice none 0 0, .slice none 0 0], []⟩ 12 (by kernel_rfl) (by kernel_rfl) (by kernel_rfl) (by kernel_rfl)) ?_
  intro W base args ds gs before hval hW _ hz _
  refine Z58 (tab := tab) (fz := true) (tys := [tU, .int .i64, .sl tEn, .sl tE]) (tb := 4) ZxW posOk laidOut ZZf rfl (by kernel_rfl) rfl (by kernel_rfl) rfl (fun ds hds => ?_) (fun x hx => law x hx) hval hW hz
  match ds, hds with
  | [_, _, _, _], _ => rfl
theorem over : Rows.fixClosedRow.holds Tryz.pinned (OpenSpec.ofChange Rows.fixClosedSpec) :=
  OpenClaim.holds_of_wide 11 Tryz.f11 rfl rfl rfl rfl rfl rfl rfl ⟨rfl, rfl, rfl, rfl, rfl⟩ rfl rfl rfl rfl rfl (by kernel_rfl) Tryz.func11 (by kernel_rfl)
    (of_decide_eq_true (by kernel_rfl)) (by unfold Func.isWrapper; first | (rw [if_pos (by decide +kernel)]; kernel_rfl) | (rw [if_neg (by decide +kernel)]; exact ⟨rfl, rfl⟩))
    (fun os started H enc _ => lifted os started H enc)
end Go.Proofs.YtbdcblpjemmipaaGreat.Ex
namespace Go.Proofs.YtbdcblpjemmipaaGreat
theorem fixClosed_holds : Rows.FixClosedSaid := Ex.over
#print axioms fixClosed_holds
end Go.Proofs.YtbdcblpjemmipaaGreat
