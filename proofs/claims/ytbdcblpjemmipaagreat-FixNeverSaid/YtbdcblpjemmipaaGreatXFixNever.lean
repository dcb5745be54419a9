/- For every input FixNever returns true, and its arguments read as they did. No condition. -/
import Derived.Test.YtbdcblpjemmipaaGreatGA
import Derived.Test.YtbdcblpjemmipaaGreatGB
import Derived.Test.YtbdcblpjemmipaaGreatGC
import Derived.Test.YtbdcblpjemmipaaGreatGD
import Derived.Test.YtbdcblpjemmipaaGreatGE
import Derived.Test.YtbdcblpjemmipaaGreatGF
import Derived.Test.YtbdcblpjemmipaaGreatGG
import Derived.Test.YtbdcblpjemmipaaGreatGH
import Derived.Test.YtbdcblpjemmipaaGreatGI
import Derived.Test.YtbdcblpjemmipaaGreatGFixNever0
import Derived.ProofKit
import Derived.Handed
import Derived.SizedLaws
import Derived.JoinedOf
namespace Go.Proofs.YtbdcblpjemmipaaGreat.Ex
open Go.Proofs Go.Proofs.YtbdcblpjemmipaaGreat
set_option maxRecDepth 100000
set_option linter.unusedVariables false
open Go.ChangeShapes Go.WideShapes Go.ChangeAt Go.RowKit
theorem ownK : ownKnob Tryz.prog.godebug = none := by kernel_rfl
theorem laidOut : laidOutB Tryz.prog = true := by kernel_rfl
theorem posOk : posB tab = true := by kernel_rfl
theorem read (x : Zx1 [.int .i64, .int .i64, .int .i64]) : rds Z6q (avs [.int .i64, .int .i64, .int .i64] x) = some (x.1, x.2.1, x.2.2.1, ()) := by kernel_rfl
theorem law (x : Zx1 [.int .i64, .int .i64, .int .i64]) (hx : ZXs reachBytes [.int .i64, .int .i64, .int .i64] x) : ∃ fb, ex ((Z6u (avs [.int .i64, .int .i64, .int .i64] x)).bind (finP true)) false ⟨[], 0⟩ ⟨[], []⟩ = some (.bool true, ⟨[], 0⟩, fb) :=
  Z5l (read x) (ZPN _ x) (Z6I x.1 x.2.1 x.2.2.1)
theorem lifted (os : Os) (started : os.Started) (H : Type) (enc : TypeId × Value → H) :
    ReturnsInHanded {} Tryz.checked os 10 .any (Rows.fixNeverSpec.pre6 enc Tryz.prog Tryz.f10 Rows.fixNeverRow.domain false) (Rows.fixNeverSpec.post enc Tryz.prog Tryz.f10 false true false false) := by
  refine returnsInHanded_of_change_sized (C := Tryz.checked) ownK started (by kernel_rfl) Tryz.func10
    (ChangeSpec.witness6 (enc := enc) (C := Tryz.checked) false ⟨#[], #[.int .i64 0, .int .i64 0, .int .i64 0], []⟩ 12 (by kernel_rfl) (by kernel_rfl) (by kernel_rfl) (by kernel_rfl)) ?_
  intro W base args ds gs before hval hW _ hz _
  refine Z4m (tab := tab) (fz := true) (tys := [.int .i64, .int .i64, .int .i64]) (tb := 4) ZAk posOk laidOut Z6D rfl (by kernel_rfl) rfl (by kernel_rfl) rfl (fun ds hds => ?_) (fun x hx => law x hx) hval hW hz
  match ds, hds with
  | [_, _, _], _ => rfl
theorem over : Rows.fixNeverRow.holds Tryz.pinned (OpenSpec.ofChange Rows.fixNeverSpec) :=
  OpenClaim.holds_of_wide 10 Tryz.f10 rfl rfl rfl rfl rfl rfl rfl ⟨rfl, rfl, rfl, rfl, rfl⟩ rfl rfl rfl rfl rfl (by kernel_rfl) Tryz.func10 (by kernel_rfl)
    (of_decide_eq_true (by kernel_rfl)) (by unfold Func.isWrapper; first | (rw [if_pos (by decide +kernel)]; kernel_rfl) | (rw [if_neg (by decide +kernel)]; exact ⟨rfl, rfl⟩))
    (fun os started H enc _ => lifted os started H enc)
end Go.Proofs.YtbdcblpjemmipaaGreat.Ex
namespace Go.Proofs.YtbdcblpjemmipaaGreat
theorem fixNever_holds : Rows.FixNeverSaid := Ex.over
#print axioms fixNever_holds
end Go.Proofs.YtbdcblpjemmipaaGreat
