/- A part of the proofs of the laws of flow: XG. -/
import Derived.Test.YtabffaaoldfjkaaXF
import Derived.Test.YtabffaaoldfjkaaXE
/- FlowLocks: each case by itself. -/
namespace Go.Proofs.Ytabffaaoldfjkaa.Ex
open Go.Proofs Go.Proofs.Ytabffaaoldfjkaa
noncomputable def isT (t : Tr) : Bool := match t with
  | .leaf (.bool true) ⟨[], 0⟩ => true
  | _ => false
theorem isT_eq {x : Tr} (h : isT x = true) : x.sem = some (.bool true, ⟨[], 0⟩) := by
  unfold isT at h
  split at h
  · rfl
  · cases h
theorem locks_all : ([(0 : Int), 1, 2, 3].all fun a => [(0 : Int), 1, 2, 3].all fun b => [(0 : Int), 1].all fun m => [false, true].all fun u => isT (evW cxD keeps 12 4 [.int .i64 a, .int .i64 b, .int .i64 m, .bool u] .auto)) = true := by kernel_rfl
end Go.Proofs.Ytabffaaoldfjkaa.Ex

/- FlowLocks: what is asked ahead of it all. -/
namespace Go.Proofs.Ytabffaaoldfjkaa.Ex
open Go.Proofs Go.Proofs.Ytabffaaoldfjkaa
theorem fl (a b m : Int) (u : Bool) : evW cxD keeps 12 4 [.int .i64 a, .int .i64 b, .int .i64 m, .bool u] (WT.ask 0 WT.auto (WT.ask 2 WT.auto (WT.ask 2 WT.auto (WT.ask 2 WT.auto WT.cut)))) =
  Tr.node (decide (a < 0)) (Tr.leaf (AV.bool Bool.true) { blks := [], c := 0 })
  (Tr.node (decide (a > 3)) (Tr.leaf (AV.bool Bool.true) { blks := [], c := 0 })
    (Tr.node (decide (b < 0)) (Tr.leaf (AV.bool Bool.true) { blks := [], c := 0 })
      (Tr.node (decide (b > 3)) (Tr.leaf (AV.bool Bool.true) { blks := [], c := 0 }) Tr.dead))) := by kernel_rfl
theorem fl00 (m : Int) (u : Bool) : evW cxD keeps 12 4 [.int .i64 0, .int .i64 0, .int .i64 m, .bool u] (WT.ask 17 WT.auto (WT.ask 2 WT.auto WT.cut)) =
  Tr.node (decide (m < 0)) (Tr.leaf (AV.bool Bool.true) { blks := [], c := 0 })
  (Tr.node (decide (m > 1)) (Tr.leaf (AV.bool Bool.true) { blks := [], c := 0 }) Tr.dead) := by kernel_rfl
theorem fl01 (m : Int) (u : Bool) : evW cxD keeps 12 4 [.int .i64 0, .int .i64 1, .int .i64 m, .bool u] (WT.ask 17 WT.auto (WT.ask 2 WT.auto WT.cut)) =
  Tr.node (decide (m < 0)) (Tr.leaf (AV.bool Bool.true) { blks := [], c := 0 })
  (Tr.node (decide (m > 1)) (Tr.leaf (AV.bool Bool.true) { blks := [], c := 0 }) Tr.dead) := by kernel_rfl
theorem fl02 (m : Int) (u : Bool) : evW cxD keeps 12 4 [.int .i64 0, .int .i64 2, .int .i64 m, .bool u] (WT.ask 17 WT.auto (WT.ask 2 WT.auto WT.cut)) =
  Tr.node (decide (m < 0)) (Tr.leaf (AV.bool Bool.true) { blks := [], c := 0 })
  (Tr.node (decide (m > 1)) (Tr.leaf (AV.bool Bool.true) { blks := [], c := 0 }) Tr.dead) := by kernel_rfl
theorem fl03 (m : Int) (u : Bool) : evW cxD keeps 12 4 [.int .i64 0, .int .i64 3, .int .i64 m, .bool u] (WT.ask 17 WT.auto (WT.ask 2 WT.auto WT.cut)) =
  Tr.node (decide (m < 0)) (Tr.leaf (AV.bool Bool.true) { blks := [], c := 0 })
  (Tr.node (decide (m > 1)) (Tr.leaf (AV.bool Bool.true) { blks := [], c := 0 }) Tr.dead) := by kernel_rfl
theorem fl10 (m : Int) (u : Bool) : evW cxD keeps 12 4 [.int .i64 1, .int .i64 0, .int .i64 m, .bool u] (WT.auto) =
  Tr.leaf (AV.bool Bool.true) { blks := [], c := 0 } := by kernel_rfl
theorem fl11 (m : Int) (u : Bool) : evW cxD keeps 12 4 [.int .i64 1, .int .i64 1, .int .i64 m, .bool u] (WT.ask 17 WT.auto (WT.ask 2 WT.auto WT.cut)) =
  Tr.node (decide (m < 0)) (Tr.leaf (AV.bool Bool.true) { blks := [], c := 0 })
  (Tr.node (decide (m > 1)) (Tr.leaf (AV.bool Bool.true) { blks := [], c := 0 }) Tr.dead) := by kernel_rfl
theorem fl12 (m : Int) (u : Bool) : evW cxD keeps 12 4 [.int .i64 1, .int .i64 2, .int .i64 m, .bool u] (WT.auto) =
  Tr.leaf (AV.bool Bool.true) { blks := [], c := 0 } := by kernel_rfl
theorem fl13 (m : Int) (u : Bool) : evW cxD keeps 12 4 [.int .i64 1, .int .i64 3, .int .i64 m, .bool u] (WT.ask 17 WT.auto (WT.ask 2 WT.auto WT.cut)) =
  Tr.node (decide (m < 0)) (Tr.leaf (AV.bool Bool.true) { blks := [], c := 0 })
  (Tr.node (decide (m > 1)) (Tr.leaf (AV.bool Bool.true) { blks := [], c := 0 }) Tr.dead) := by kernel_rfl
theorem fl20 (m : Int) (u : Bool) : evW cxD keeps 12 4 [.int .i64 2, .int .i64 0, .int .i64 m, .bool u] (WT.auto) =
  Tr.leaf (AV.bool Bool.true) { blks := [], c := 0 } := by kernel_rfl
theorem fl21 (m : Int) (u : Bool) : evW cxD keeps 12 4 [.int .i64 2, .int .i64 1, .int .i64 m, .bool u] (WT.auto) =
  Tr.leaf (AV.bool Bool.true) { blks := [], c := 0 } := by kernel_rfl
theorem fl22 (m : Int) (u : Bool) : evW cxD keeps 12 4 [.int .i64 2, .int .i64 2, .int .i64 m, .bool u] (WT.ask 17 WT.auto (WT.ask 2 WT.auto WT.cut)) =
  Tr.node (decide (m < 0)) (Tr.leaf (AV.bool Bool.true) { blks := [], c := 0 })
  (Tr.node (decide (m > 1)) (Tr.leaf (AV.bool Bool.true) { blks := [], c := 0 }) Tr.dead) := by kernel_rfl
theorem fl23 (m : Int) (u : Bool) : evW cxD keeps 12 4 [.int .i64 2, .int .i64 3, .int .i64 m, .bool u] (WT.ask 17 WT.auto (WT.ask 2 WT.auto WT.cut)) =
  Tr.node (decide (m < 0)) (Tr.leaf (AV.bool Bool.true) { blks := [], c := 0 })
  (Tr.node (decide (m > 1)) (Tr.leaf (AV.bool Bool.true) { blks := [], c := 0 }) Tr.dead) := by kernel_rfl
theorem fl30 (m : Int) (u : Bool) : evW cxD keeps 12 4 [.int .i64 3, .int .i64 0, .int .i64 m, .bool u] (WT.auto) =
  Tr.leaf (AV.bool Bool.true) { blks := [], c := 0 } := by kernel_rfl
theorem fl31 (m : Int) (u : Bool) : evW cxD keeps 12 4 [.int .i64 3, .int .i64 1, .int .i64 m, .bool u] (WT.auto) =
  Tr.leaf (AV.bool Bool.true) { blks := [], c := 0 } := by kernel_rfl
theorem fl32 (m : Int) (u : Bool) : evW cxD keeps 12 4 [.int .i64 3, .int .i64 2, .int .i64 m, .bool u] (WT.auto) =
  Tr.leaf (AV.bool Bool.true) { blks := [], c := 0 } := by kernel_rfl
theorem fl33 (m : Int) (u : Bool) : evW cxD keeps 12 4 [.int .i64 3, .int .i64 3, .int .i64 m, .bool u] (WT.ask 17 WT.auto (WT.ask 2 WT.auto WT.cut)) =
  Tr.node (decide (m < 0)) (Tr.leaf (AV.bool Bool.true) { blks := [], c := 0 })
  (Tr.node (decide (m > 1)) (Tr.leaf (AV.bool Bool.true) { blks := [], c := 0 }) Tr.dead) := by kernel_rfl
theorem law4 (a b m : Int) (u : Bool) : ∃ w, (evW cxD keeps 12 4 [.int .i64 a, .int .i64 b, .int .i64 m, .bool u] w).sem = some (.bool true, ⟨[], 0⟩) := by
  by_cases h1 : a < 0
  · exact ⟨_, by rw [fl]; simp only [Tr.sem, decide_eq_true h1, cond_true]⟩
  by_cases h2 : a > 3
  · exact ⟨_, by rw [fl]; simp only [Tr.sem, decide_eq_true h2, decide_eq_false h1, cond_true, cond_false]⟩
  by_cases h3 : b < 0
  · exact ⟨_, by rw [fl]; simp only [Tr.sem, decide_eq_true h3, decide_eq_false h1, decide_eq_false h2, cond_true, cond_false]⟩
  by_cases h4 : b > 3
  · exact ⟨_, by rw [fl]; simp only [Tr.sem, decide_eq_true h4, decide_eq_false h1, decide_eq_false h2, decide_eq_false h3, cond_true, cond_false]⟩
  have ha : a ∈ [(0 : Int), 1, 2, 3] := by simp only [List.mem_cons, List.not_mem_nil, or_false]; omega
  have hb : b ∈ [(0 : Int), 1, 2, 3] := by simp only [List.mem_cons, List.not_mem_nil, or_false]; omega
  by_cases h5 : m < 0 ∨ m > 1
  · have key : ∀ x y : Int, x ∈ [(0 : Int), 1, 2, 3] → y ∈ [(0 : Int), 1, 2, 3] → ∃ w, (evW cxD keeps 12 4 [.int .i64 x, .int .i64 y, .int .i64 m, .bool u] w).sem = some (.bool true, ⟨[], 0⟩) := by
      intro x y hx hy
      have h6 : ¬ m < 0 → decide (m > 1) = true := fun k => decide_eq_true (by omega)
      simp only [List.mem_cons, List.not_mem_nil, or_false] at hx hy
      by_cases h7 : m < 0
      · rcases hx with rfl | rfl | rfl | rfl <;> rcases hy with rfl | rfl | rfl | rfl
        · exact ⟨_, by rw [fl00]; first | rfl | simp only [Tr.sem, decide_eq_true h7, cond_true]⟩
        · exact ⟨_, by rw [fl01]; first | rfl | simp only [Tr.sem, decide_eq_true h7, cond_true]⟩
        · exact ⟨_, by rw [fl02]; first | rfl | simp only [Tr.sem, decide_eq_true h7, cond_true]⟩
        · exact ⟨_, by rw [fl03]; first | rfl | simp only [Tr.sem, decide_eq_true h7, cond_true]⟩
        · exact ⟨_, by rw [fl10]; first | rfl | simp only [Tr.sem, decide_eq_true h7, cond_true]⟩
        · exact ⟨_, by rw [fl11]; first | rfl | simp only [Tr.sem, decide_eq_true h7, cond_true]⟩
        · exact ⟨_, by rw [fl12]; first | rfl | simp only [Tr.sem, decide_eq_true h7, cond_true]⟩
        · exact ⟨_, by rw [fl13]; first | rfl | simp only [Tr.sem, decide_eq_true h7, cond_true]⟩
        · exact ⟨_, by rw [fl20]; first | rfl | simp only [Tr.sem, decide_eq_true h7, cond_true]⟩
        · exact ⟨_, by rw [fl21]; first | rfl | simp only [Tr.sem, decide_eq_true h7, cond_true]⟩
        · exact ⟨_, by rw [fl22]; first | rfl | simp only [Tr.sem, decide_eq_true h7, cond_true]⟩
        · exact ⟨_, by rw [fl23]; first | rfl | simp only [Tr.sem, decide_eq_true h7, cond_true]⟩
        · exact ⟨_, by rw [fl30]; first | rfl | simp only [Tr.sem, decide_eq_true h7, cond_true]⟩
        · exact ⟨_, by rw [fl31]; first | rfl | simp only [Tr.sem, decide_eq_true h7, cond_true]⟩
        · exact ⟨_, by rw [fl32]; first | rfl | simp only [Tr.sem, decide_eq_true h7, cond_true]⟩
        · exact ⟨_, by rw [fl33]; first | rfl | simp only [Tr.sem, decide_eq_true h7, cond_true]⟩
      · have h8 := h6 h7
        rcases hx with rfl | rfl | rfl | rfl <;> rcases hy with rfl | rfl | rfl | rfl
        · exact ⟨_, by rw [fl00]; first | rfl | simp only [Tr.sem, decide_eq_false h7, h8, cond_true, cond_false]⟩
        · exact ⟨_, by rw [fl01]; first | rfl | simp only [Tr.sem, decide_eq_false h7, h8, cond_true, cond_false]⟩
        · exact ⟨_, by rw [fl02]; first | rfl | simp only [Tr.sem, decide_eq_false h7, h8, cond_true, cond_false]⟩
        · exact ⟨_, by rw [fl03]; first | rfl | simp only [Tr.sem, decide_eq_false h7, h8, cond_true, cond_false]⟩
        · exact ⟨_, by rw [fl10]; first | rfl | simp only [Tr.sem, decide_eq_false h7, h8, cond_true, cond_false]⟩
        · exact ⟨_, by rw [fl11]; first | rfl | simp only [Tr.sem, decide_eq_false h7, h8, cond_true, cond_false]⟩
        · exact ⟨_, by rw [fl12]; first | rfl | simp only [Tr.sem, decide_eq_false h7, h8, cond_true, cond_false]⟩
        · exact ⟨_, by rw [fl13]; first | rfl | simp only [Tr.sem, decide_eq_false h7, h8, cond_true, cond_false]⟩
        · exact ⟨_, by rw [fl20]; first | rfl | simp only [Tr.sem, decide_eq_false h7, h8, cond_true, cond_false]⟩
        · exact ⟨_, by rw [fl21]; first | rfl | simp only [Tr.sem, decide_eq_false h7, h8, cond_true, cond_false]⟩
        · exact ⟨_, by rw [fl22]; first | rfl | simp only [Tr.sem, decide_eq_false h7, h8, cond_true, cond_false]⟩
        · exact ⟨_, by rw [fl23]; first | rfl | simp only [Tr.sem, decide_eq_false h7, h8, cond_true, cond_false]⟩
        · exact ⟨_, by rw [fl30]; first | rfl | simp only [Tr.sem, decide_eq_false h7, h8, cond_true, cond_false]⟩
        · exact ⟨_, by rw [fl31]; first | rfl | simp only [Tr.sem, decide_eq_false h7, h8, cond_true, cond_false]⟩
        · exact ⟨_, by rw [fl32]; first | rfl | simp only [Tr.sem, decide_eq_false h7, h8, cond_true, cond_false]⟩
        · exact ⟨_, by rw [fl33]; first | rfl | simp only [Tr.sem, decide_eq_false h7, h8, cond_true, cond_false]⟩
    exact key a b ha hb
  · have hm : m ∈ [(0 : Int), 1] := by simp only [List.mem_cons, List.not_mem_nil, or_false]; omega
    have hu : u ∈ [false, true] := by cases u <;> simp
    exact ⟨_, isT_eq (List.all_eq_true.1 (List.all_eq_true.1 (List.all_eq_true.1 (List.all_eq_true.1 locks_all a ha) b hb) m hm) u hu)⟩
end Go.Proofs.Ytabffaaoldfjkaa.Ex

