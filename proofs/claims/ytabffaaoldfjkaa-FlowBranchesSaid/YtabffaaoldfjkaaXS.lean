/- A part of the proofs of the laws of flow: XS. -/
import Derived.Test.YtabffaaoldfjkaaXQ
import Derived.Test.YtabffaaoldfjkaaXR
import Derived.Test.YtabffaaoldfjkaaXN
import Derived.Test.YtabffaaoldfjkaaXP
import Derived.Test.YtabffaaoldfjkaaXO
/- FlowBranches: 4. -/
namespace Go.Proofs.Ytabffaaoldfjkaa.Ex
open Go.Proofs Go.Proofs.Ytabffaaoldfjkaa
set_option maxRecDepth 100000
set_option maxHeartbeats 0
set_option linter.unusedSimpArgs false
set_option linter.unusedVariables false
theorem law3_4 (a b : I) : ∃ w, (evW cxD keeps 12 3 [.agg [.int .i64 a.1, .int .i64 a.2], .agg [.int .i64 b.1, .int .i64 b.2], .int .i64 4] w).sem = some (.bool true, ⟨[], 0⟩) := by
  cases h2 : decide (a.1 = a.2) <;> cases h1 : decide (b.1 = b.2)
  · exact law3_4_0 a b h1 h2
  · exact law3_4_1 a b h1 h2
  · exact law3_4_2 a b h1 h2
  · exact law3_4_3 a b h1 h2
end Go.Proofs.Ytabffaaoldfjkaa.Ex

/- FlowBranches: all relations. -/
namespace Go.Proofs.Ytabffaaoldfjkaa.Ex
open Go.Proofs Go.Proofs.Ytabffaaoldfjkaa
set_option maxRecDepth 100000
set_option maxHeartbeats 0
set_option linter.unusedSimpArgs false
set_option linter.unusedVariables false
theorem law3 (a b : I) (r : Int) : ∃ w, (evW cxD keeps 12 3 [.agg [.int .i64 a.1, .int .i64 a.2], .agg [.int .i64 b.1, .int .i64 b.2], .int .i64 r] w).sem = some (.bool true, ⟨[], 0⟩) := by
  by_cases h1 : r < 1
  · exact law3_lo a b r h1
  by_cases h2 : r > 6
  · exact law3_hi a b r h2
  have e : r = 1 ∨ r = 2 ∨ r = 3 ∨ r = 4 ∨ r = 5 ∨ r = 6 := by omega
  rcases e with rfl | rfl | rfl | rfl | rfl | rfl
  · exact law3_1 a b
  · exact law3_2 a b
  · exact law3_3 a b
  · exact law3_4 a b
  · exact law3_5 a b
  · exact law3_6 a b
end Go.Proofs.Ytabffaaoldfjkaa.Ex

