/- For every input EnvMany returns true, and its arguments read as they did. No condition. -/
import Derived.Test.YtpahnadbknjepaaXO
import Derived.ProofKit
import Derived.Handed
import Derived.SizedLaws
import Derived.JoinedOf
namespace Go.Proofs.Ytpahnadbknjepaa.Ex
open Go.Proofs Go.Proofs.Ytpahnadbknjepaa
set_option maxRecDepth 100000
open Go.ChangeShapes Go.WideShapes Go.ChangeAt Go.RowKit
theorem lenE_of (e : E) (h : DOkS reachBytes tE e) : lenE e = true := by
  have h1 : e.2.1.length ≤ reachBytes := h.2.1.1
  have h2 : e.2.2.1.length ≤ reachBytes := h.2.2.1.1
  have h3 : e.2.2.2.1.length ≤ reachBytes := h.2.2.2.1.1
  have hr : reachBytes ≤ 1152921504606846976 := by decide
  simp only [lenE, Bool.and_eq_true, decide_eq_true_eq]
  exact ⟨⟨Nat.le_trans h1 hr, Nat.le_trans h2 hr⟩, Nat.le_trans h3 hr⟩
theorem ownK : ownKnob Try.prog.godebug = none := by kernel_rfl
theorem laidOut : laidOutB Try.prog = true := by kernel_rfl
theorem posOk : posB tab = true := by kernel_rfl
theorem law (x : DArgs [.sl tE]) (hx : DOksS reachBytes [.sl tE] x) : ∃ fb, ex ((q3f 3 (avs [.sl tE] x)).bind (finP true)) false ⟨[], 0⟩ ⟨[], []⟩ = some (.bool true, ⟨[], 0⟩, fb) := by
  exact ok3' x.1 (fun e he => lenE_of _ (hx.1.2 e he))
theorem lifted (os : Os) (started : os.Started) (H : Type) (enc : TypeId × Value → H) :
    ReturnsInHanded {} Try.checked os 3 .any (Rows.envManySpec.pre6 enc Try.prog Try.f3 Rows.envManyRow.domain false) (Rows.envManySpec.post enc Try.prog Try.f3 false true false false) := by
  refine returnsInHanded_of_change_sized (C := Try.checked) ownK started (by kernel_rfl) Try.func3
    (ChangeSpec.witness6 (enc := enc) (C := Try.checked) false ⟨#[], #[.slice none 0 0], []⟩ 12 (by kernel_rfl) (by kernel_rfl) (by kernel_rfl) (by kernel_rfl)) ?_
  intro W base args ds gs before hval hW _ hz _
  refine law_callsS (tab := tab) (fz := true) (tys := [.sl tE]) (tb := 4) tab_ok posOk laidOut (sndq3 3) rfl (by kernel_rfl) rfl (by kernel_rfl) rfl (fun ds hds => ?_) (fun x hx => law x hx) hval hW hz
  match ds, hds with
  | [_], _ => rfl
theorem over : Rows.envManyRow.holds Try.pinned (OpenSpec.ofChange Rows.envManySpec) :=
  OpenClaim.holds_of_wide 3 Try.f3 rfl rfl rfl rfl rfl rfl rfl ⟨rfl, rfl, rfl, rfl, rfl⟩ rfl rfl rfl rfl rfl (by kernel_rfl) Try.func3 (by kernel_rfl)
    (of_decide_eq_true (by kernel_rfl)) (by unfold Func.isWrapper; first | (rw [if_pos (by decide +kernel)]; kernel_rfl) | (rw [if_neg (by decide +kernel)]; exact ⟨rfl, rfl⟩))
    (fun os started H enc _ => lifted os started H enc)
end Go.Proofs.Ytpahnadbknjepaa.Ex
namespace Go.Proofs.Ytpahnadbknjepaa
theorem envMany_holds : Rows.EnvManySaid := Ex.over
#print axioms envMany_holds
end Go.Proofs.Ytpahnadbknjepaa
