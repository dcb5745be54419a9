/- For every input FlowMore returns true, and its arguments read as they did. No condition. -/
import Derived.Test.YtbdcblpjemmipaaZI
import Derived.ProofKit
import Derived.Handed
import Derived.SizedLaws
import Derived.JoinedOf
namespace Go.Proofs.Ytbdcblpjemmipaa.Ex
open Go.Proofs Go.Proofs.Ytbdcblpjemmipaa
set_option maxRecDepth 100000
open Go.ChangeShapes Go.WideShapes Go.ChangeAt Go.RowKit
theorem ownK : ownKnob Try.prog.godebug = none := by kernel_rfl
theorem laidOut : laidOutB Try.prog = true := by kernel_rfl
theorem posOk : posB tab = true := by kernel_rfl
theorem read (x : DArgs [tU, .int .i64, .int .i64, tE, tE, .sl tEn, .sl tEn]) : rds ash_law13_FlowMore (avs [tU, .int .i64, .int .i64, tE, tE, .sl tEn, .sl tEn] x) = some (x.1, x.2.1, x.2.2.1, x.2.2.2.1, x.2.2.2.2.1, x.2.2.2.2.2.1, x.2.2.2.2.2.2.1, ()) := by kernel_rfl
theorem law (x : DArgs [tU, .int .i64, .int .i64, tE, tE, .sl tEn, .sl tEn]) (hx : DOksS reachBytes [tU, .int .i64, .int .i64, tE, tE, .sl tEn, .sl tEn] x) : ∃ fb, ex ((con_law13_FlowMore (avs [tU, .int .i64, .int .i64, tE, tE, .sl tEn, .sl tEn] x)).bind (finP true)) false ⟨[], 0⟩ ⟨[], []⟩ = some (.bool true, ⟨[], 0⟩, fb) :=
  law_con (read x) (avs_ids _ x) (flowMore x.1 x.2.1 x.2.2.1 x.2.2.2.1 x.2.2.2.2.1 x.2.2.2.2.2.1 x.2.2.2.2.2.2.1 (sizeU_of hx.1) (size_l hx.2.2.2.2.2.1) (size_l hx.2.2.2.2.2.2.1))
theorem lifted (os : Os) (started : os.Started) (H : Type) (enc : TypeId × Value → H) :
    ReturnsInHanded {} Try.checked os 11 .any (Rows.flowMoreSpec.pre6 enc Try.prog Try.f11 Rows.flowMoreRow.domain false) (Rows.flowMoreSpec.post enc Try.prog Try.f11 false true false false) := by
  refine returnsInHanded_of_change_sized (C := Try.checked) ownK started (by kernel_rfl) Try.func11
    (ChangeSpec.witness6 (enc := enc) (C := Try.checked) false ⟨#[], #[.agg #[.slice none 0 0, .slice none 0 0, .int .i64 0, .slice none 0 0], .int .i64 0, .int .i64 0, .agg #[.bool false, .slice none 0 0, .slice none 0 0, .slice none 0 0, .int .i64 0, .int .i64 0], .agg #[.bool false, .slice none 0 0, .slice none 0 0, .slice none 0 0, .int .i64 0, .int .i64 0], .slice none 0 0, .slice none 0 0], []⟩ 12 (by kernel_rfl) (by kernel_rfl) (by kernel_rfl) (by kernel_rfl)) ?_
  intro W base args ds gs before hval hW _ hz _
  refine law_callsS (tab := tab) (fz := true) (tys := [tU, .int .i64, .int .i64, tE, tE, .sl tEn, .sl tEn]) (tb := 4) tab_ok posOk laidOut snd_law13_FlowMore rfl (by kernel_rfl) rfl (by kernel_rfl) rfl (fun ds hds => ?_) (fun x hx => law x hx) hval hW hz
  match ds, hds with
  | [_, _, _, _, _, _, _], _ => rfl
theorem over : Rows.flowMoreRow.holds Try.pinned (OpenSpec.ofChange Rows.flowMoreSpec) :=
  OpenClaim.holds_of_wide 11 Try.f11 rfl rfl rfl rfl rfl rfl rfl ⟨rfl, rfl, rfl, rfl, rfl⟩ rfl rfl rfl rfl rfl (by kernel_rfl) Try.func11 (by kernel_rfl)
    (of_decide_eq_true (by kernel_rfl)) (by unfold Func.isWrapper; first | (rw [if_pos (by decide +kernel)]; kernel_rfl) | (rw [if_neg (by decide +kernel)]; exact ⟨rfl, rfl⟩))
    (fun os started H enc _ => lifted os started H enc)
end Go.Proofs.Ytbdcblpjemmipaa.Ex
namespace Go.Proofs.Ytbdcblpjemmipaa
theorem flowMore_holds : Rows.FlowMoreSaid := Ex.over
#print axioms flowMore_holds
end Go.Proofs.Ytbdcblpjemmipaa
