/- For every input TabOwn returns true, and its arguments read as they did. No condition. -/
import Derived.Test.YtoldjnhbgbhgpaaXG
import Derived.ProofKit
import Derived.Handed
import Derived.SizedLaws
import Derived.JoinedOf
namespace Go.Proofs.Ytoldjnhbgbhgpaa.Ex
open Go.Proofs Go.Proofs.Ytoldjnhbgbhgpaa
set_option maxRecDepth 100000
open Go.ChangeShapes Go.WideShapes Go.ChangeAt Go.RowKit
theorem ownK : ownKnob Try.prog.godebug = none := by kernel_rfl
theorem laidOut : laidOutB Try.prog = true := by kernel_rfl
theorem posOk : posB tab = true := by kernel_rfl
theorem law (x : DArgs [.st (.pair (.int .i64) (.pair .bool (.pair (.int .i64) (.pair (.int .i64) (.st (.pair (.int .i64) (.int .i64))))))), .int .i64, .bool, .int .i64, .int .i64]) (hx : DOksS reachBytes [.st (.pair (.int .i64) (.pair .bool (.pair (.int .i64) (.pair (.int .i64) (.st (.pair (.int .i64) (.int .i64))))))), .int .i64, .bool, .int .i64, .int .i64] x) : ∃ fb, ex ((evF cxE keeps 12 3 (avs [.st (.pair (.int .i64) (.pair .bool (.pair (.int .i64) (.pair (.int .i64) (.st (.pair (.int .i64) (.int .i64))))))), .int .i64, .bool, .int .i64, .int .i64] x)).bind (finP true)) false ⟨[], 0⟩ ⟨[], []⟩ = some (.bool true, ⟨[], 0⟩, fb) := by
  obtain ⟨w, hw⟩ := law3 x.1.1 x.1.2.1 x.1.2.2.1 x.1.2.2.2.1 x.1.2.2.2.2.1 x.1.2.2.2.2.2 x.2.1 x.2.2.1 x.2.2.2.1 x.2.2.2.2.1
  exact evW_ex hw
theorem lifted (os : Os) (started : os.Started) (H : Type) (enc : TypeId × Value → H) :
    ReturnsInHanded {} Try.checked os 3 .any (Rows.tabOwnSpec.pre6 enc Try.prog Try.f3 Rows.tabOwnRow.domain false) (Rows.tabOwnSpec.post enc Try.prog Try.f3 false true false false) := by
  refine returnsInHanded_of_change_sized (C := Try.checked) ownK started (by kernel_rfl) Try.func3
    (ChangeSpec.witness6 (enc := enc) (C := Try.checked) false ⟨#[], #[.agg #[.int .i64 0, .bool false, .int .i64 0, .int .i64 0, .int .i64 0, .int .i64 0], .int .i64 0, .bool false, .int .i64 0, .int .i64 0], []⟩ 12 (by kernel_rfl) (by kernel_rfl) (by kernel_rfl) (by kernel_rfl)) ?_
  intro W base args ds gs before hval hW _ hz _
  refine law_callsS (tab := tab) (fz := true) (tys := [.st (.pair (.int .i64) (.pair .bool (.pair (.int .i64) (.pair (.int .i64) (.st (.pair (.int .i64) (.int .i64))))))), .int .i64, .bool, .int .i64, .int .i64]) (tb := 4) tab_ok posOk laidOut (calE 12 3) rfl (by kernel_rfl) rfl (by kernel_rfl) rfl (fun ds hds => ?_) (fun x hx => law x hx) hval hW hz
  match ds, hds with
  | [_, _, _, _, _], _ => rfl
theorem over : Rows.tabOwnRow.holds Try.pinned (OpenSpec.ofChange Rows.tabOwnSpec) :=
  OpenClaim.holds_of_wide 3 Try.f3 rfl rfl rfl rfl rfl rfl rfl ⟨rfl, rfl, rfl, rfl, rfl⟩ rfl rfl rfl rfl rfl (by kernel_rfl) Try.func3 (by kernel_rfl)
    (of_decide_eq_true (by kernel_rfl)) (by unfold Func.isWrapper; first | (rw [if_pos (by decide +kernel)]; kernel_rfl) | (rw [if_neg (by decide +kernel)]; exact ⟨rfl, rfl⟩))
    (fun os started H enc _ => lifted os started H enc)
end Go.Proofs.Ytoldjnhbgbhgpaa.Ex
namespace Go.Proofs.Ytoldjnhbgbhgpaa
theorem tabOwn_holds : Rows.TabOwnSaid := Ex.over
#print axioms tabOwn_holds
end Go.Proofs.Ytoldjnhbgbhgpaa
