/- For every input TabTells returns true, and its arguments read as they did. No condition. -/
import Derived.Test.YtbdcblpjemmipaaTA
import Derived.Test.YtbdcblpjemmipaaTB
import Derived.Test.YtbdcblpjemmipaaTC
import Derived.Test.YtbdcblpjemmipaaTD
import Derived.Test.YtbdcblpjemmipaaTE
import Derived.Test.YtbdcblpjemmipaaTF
import Derived.Test.YtbdcblpjemmipaaTG
import Derived.Test.YtbdcblpjemmipaaTH
import Derived.ProofKit
import Derived.Handed
import Derived.SizedLaws
import Derived.JoinedOf
namespace Go.Proofs.Ytbdcblpjemmipaa.Ex
open Go.Proofs Go.Proofs.Ytbdcblpjemmipaa
set_option maxRecDepth 100000
set_option linter.unusedVariables false
open Go.ChangeShapes Go.WideShapes Go.ChangeAt Go.RowKit
theorem ownK : ownKnob Try.prog.godebug = none := by kernel_rfl
theorem laidOut : laidOutB Try.prog = true := by kernel_rfl
theorem posOk : posB tab = true := by kernel_rfl
theorem read (x : DArgs [.sl tEn, .sl tEn, .sl tEn, .sl (.int .i64), .int .i64, .bool, .int .i64, .int .i64, .int .i64]) : rds ash_law12_TabTells (avs [.sl tEn, .sl tEn, .sl tEn, .sl (.int .i64), .int .i64, .bool, .int .i64, .int .i64, .int .i64] x) = some (x.1, x.2.1, x.2.2.1, x.2.2.2.1, x.2.2.2.2.1, x.2.2.2.2.2.1, x.2.2.2.2.2.2.1, x.2.2.2.2.2.2.2.1, x.2.2.2.2.2.2.2.2.1, ()) := by kernel_rfl
theorem law (x : DArgs [.sl tEn, .sl tEn, .sl tEn, .sl (.int .i64), .int .i64, .bool, .int .i64, .int .i64, .int .i64]) (hx : DOksS reachBytes [.sl tEn, .sl tEn, .sl tEn, .sl (.int .i64), .int .i64, .bool, .int .i64, .int .i64, .int .i64] x) : ∃ fb, ex ((con_law12_TabTells (avs [.sl tEn, .sl tEn, .sl tEn, .sl (.int .i64), .int .i64, .bool, .int .i64, .int .i64, .int .i64] x)).bind (finP true)) false ⟨[], 0⟩ ⟨[], []⟩ = some (.bool true, ⟨[], 0⟩, fb) :=
  law_con (read x) (avs_ids _ x) (tabTells x.1 x.2.1 x.2.2.1 x.2.2.2.1 x.2.2.2.2.1 x.2.2.2.2.2.1 x.2.2.2.2.2.2.1 x.2.2.2.2.2.2.2.1 x.2.2.2.2.2.2.2.2.1)
theorem lifted (os : Os) (started : os.Started) (H : Type) (enc : TypeId × Value → H) :
    ReturnsInHanded {} Try.checked os 7 .any (Rows.tabTellsSpec.pre6 enc Try.prog Try.f7 Rows.tabTellsRow.domain false) (Rows.tabTellsSpec.post enc Try.prog Try.f7 false true false false) := by
  refine returnsInHanded_of_change_sized (C := Try.checked) ownK started (by kernel_rfl) Try.func7
    (ChangeSpec.witness6 (enc := enc) (C := Try.checked) false ⟨#[], #[.slice none 0 0, .slice none 0 0, .slice none 0 0, .slice none 0 0, .int .i64 0, .bool false, .int .i64 0, .int .i64 0, .int .i64 0], []⟩ 12 (by kernel_rfl) (by kernel_rfl) (by kernel_rfl) (by kernel_rfl)) ?_
  intro W base args ds gs before hval hW _ hz _
  refine law_callsS (tab := tab) (fz := true) (tys := [.sl tEn, .sl tEn, .sl tEn, .sl (.int .i64), .int .i64, .bool, .int .i64, .int .i64, .int .i64]) (tb := 4) tab_ok posOk laidOut snd_law12_TabTells rfl (by kernel_rfl) rfl (by kernel_rfl) rfl (fun ds hds => ?_) (fun x hx => law x hx) hval hW hz
  match ds, hds with
  | [_, _, _, _, _, _, _, _, _], _ => rfl
theorem over : Rows.tabTellsRow.holds Try.pinned (OpenSpec.ofChange Rows.tabTellsSpec) :=
  OpenClaim.holds_of_wide 7 Try.f7 rfl rfl rfl rfl rfl rfl rfl ⟨rfl, rfl, rfl, rfl, rfl⟩ rfl rfl rfl rfl rfl (by kernel_rfl) Try.func7 (by kernel_rfl)
    (of_decide_eq_true (by kernel_rfl)) (by unfold Func.isWrapper; first | (rw [if_pos (by decide +kernel)]; kernel_rfl) | (rw [if_neg (by decide +kernel)]; exact ⟨rfl, rfl⟩))
    (fun os started H enc _ => lifted os started H enc)
end Go.Proofs.Ytbdcblpjemmipaa.Ex
namespace Go.Proofs.Ytbdcblpjemmipaa
theorem tabTells_holds : Rows.TabTellsSaid := Ex.over
#print axioms tabTells_holds
end Go.Proofs.Ytbdcblpjemmipaa
