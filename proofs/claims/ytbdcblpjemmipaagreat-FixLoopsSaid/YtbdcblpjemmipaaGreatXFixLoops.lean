/- For every input FixLoops returns true, and its arguments read as they did. No condition. -/
import Derived.Test.YtbdcblpjemmipaaGreatIA
import Derived.Test.YtbdcblpjemmipaaGreatIB
import Derived.Test.YtbdcblpjemmipaaGreatIC
import Derived.Test.YtbdcblpjemmipaaGreatID
import Derived.Test.YtbdcblpjemmipaaGreatIE
import Derived.Test.YtbdcblpjemmipaaGreatIF
import Derived.Test.YtbdcblpjemmipaaGreatIG
import Derived.Test.YtbdcblpjemmipaaGreatIH
import Derived.Test.YtbdcblpjemmipaaGreatII
import Derived.ProofKit
import Derived.Handed
import Derived.SizedLaws
import Derived.JoinedOf
namespace Go.Proofs.YtbdcblpjemmipaaGreat.Ex
open Go.Proofs Go.Proofs.YtbdcblpjemmipaaGreat
set_option maxRecDepth 100000
set_option linter.unusedVariables false
open Go.ChangeShapes Go.WideShapes Go.ChangeAt Go.RowKit
theorem ownK : ownKnob Tryz.prog.godebug = none := by kernel_rfl
theorem laidOut : laidOutB Tryz.prog = true := by kernel_rfl
theorem posOk : posB tab = true := by kernel_rfl
theorem read (x : Zrb [.int .i64]) : rds ZCl (avs [.int .i64] x) = some (x.1, ()) := by kernel_rfl
theorem law (x : Zrb [.int .i64]) (hx : ZRd reachBytes [.int .i64] x) : ∃ fb, ex ((ZCq (avs [.int .i64] x)).bind (finP true)) false ⟨[], 0⟩ ⟨[], []⟩ = some (.bool true, ⟨[], 0⟩, fb) :=
  Z1f (read x) (ZI8 _ x) (Z0O x.1)
theorem lifted (os : Os) (started : os.Started) (H : Type) (enc : TypeId × Value → H) :
    ReturnsInHanded {} Tryz.checked os 9 .any (Rows.fixLoopsSpec.pre6 enc Tryz.prog Tryz.f9 Rows.fixLoopsRow.domain false) (Rows.fixLoopsSpec.post enc Tryz.prog Tryz.f9 false true false false) := by
  refine returnsInHanded_of_change_sized (C := Tryz.checked) ownK started (by kernel_rfl) Tryz.func9
    (ChangeSpec.witness6 (enc := enc) (C := Tryz.checked) false ⟨#[], #[.int .i64 0], []⟩ 12 (by kernel_rfl) (by kernel_rfl) (by kernel_rfl) (by kernel_rfl)) ?_
  intro W base args ds gs before hval hW _ hz _
  refine ZZU (tab := tab) (fz := true) (tys := [.int .i64]) (tb := 4) ZsZ posOk laidOut ZTq rfl (by kernel_rfl) rfl (by kernel_rfl) rfl (fun ds hds => ?_) (fun x hx => law x hx) hval hW hz
  match ds, hds with
  | [_], _ => rfl
theorem over : Rows.fixLoopsRow.holds Tryz.pinned (OpenSpec.ofChange Rows.fixLoopsSpec) :=
  OpenClaim.holds_of_wide 9 Tryz.f9 rfl rfl rfl rfl rfl rfl rfl ⟨rfl, rfl, rfl, rfl, rfl⟩ rfl rfl rfl rfl rfl (by kernel_rfl) Tryz.func9 (by kernel_rfl)
    (of_decide_eq_true (by kernel_rfl)) (by unfold Func.isWrapper; first | (rw [if_pos (by decide +kernel)]; kernel_rfl) | (rw [if_neg (by decide +kernel)]; exact ⟨rfl, rfl⟩))
    (fun os started H enc _ => lifted os started H enc)
end Go.Proofs.YtbdcblpjemmipaaGreat.Ex
namespace Go.Proofs.YtbdcblpjemmipaaGreat
theorem fixLoops_holds : Rows.FixLoopsSaid := Ex.over
#print axioms fixLoops_holds
end Go.Proofs.YtbdcblpjemmipaaGreat
