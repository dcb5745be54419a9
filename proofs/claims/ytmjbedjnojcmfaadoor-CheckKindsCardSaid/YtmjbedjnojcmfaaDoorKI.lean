/- A part of the proofs of which programs may be: KI. -/
import Derived.Test.YtmjbedjnojcmfaaDoorKH
import Derived.Test.YtmjbedjnojcmfaaDoorKF
import Derived.Test.YtmjbedjnojcmfaaDoorKD
namespace Go.Proofs.YtmjbedjnojcmfaaDoor.Ex
set_option maxRecDepth 100000
set_option linter.unusedVariables false
set_option linter.unusedSimpArgs false
theorem oz0 : ok0 (.mk (0, 0, 0, ByteArray.empty, [])) := .mk (by decide) (by decide) (by simp)
theorem oz1 : ok1 (.mk (0, 0, [], [])) := .mk (by decide) (by decide) (by simp) (by simp)
theorem ok_pgm (L : List ByteArray) (s : Stm) (hl : L.length ≤ 6) (hn : ∀ x ∈ L, x.data.toList.length ≤ 9223372036854775807) (hs : ok2 (.mk s)) : okP ([(ByteArray.mk #[103], 0)], [(ByteArray.mk #[97], 1)], [ByteArray.mk #[109]], [(ByteArray.mk #[116], L, [fT2 s])]) where
  g := by simp
  gn := by intro x hx; simp only [List.mem_singleton] at hx; subst hx; decide
  a := by simp
  an := by intro x hx; simp only [List.mem_singleton] at hx; subst hx; decide
  m := by simp
  mn := by intro x hx; simp only [List.mem_singleton] at hx; subst hx; decide
  t := by simp
  ts := by
    intro x hx
    simp only [List.mem_singleton] at hx
    subst hx
    exact ⟨by show (ByteArray.mk #[116]).data.toList.length ≤ _; decide, by show L.length < _; omega, hn, by simp, by intro d hd; simp only [List.mem_singleton] at hd; subst hd; exact hs⟩
theorem nv : nameB (ByteArray.mk #[118]) = true := by kernel_rfl
theorem val_pgm (L : List ByteArray) (s : Stm) (hf : fitsB ([(ByteArray.mk #[103], 0)], [(ByteArray.mk #[97], 1)], [ByteArray.mk #[109]], [(ByteArray.mk #[116], L, [fT2 s])]) = true) (hn : L.all nameB = true) : checkV ([(ByteArray.mk #[103], 0)], [(ByteArray.mk #[97], 1)], [ByteArray.mk #[109]], [(ByteArray.mk #[116], L, [fT2 s])]) =
    bif !(smB (.mk s)) then 2 else bif twB ([ByteArray.mk #[103], ByteArray.mk #[97], ByteArray.mk #[109]] ++ L) then 5 else bif smU [(ByteArray.mk #[103], 0)] [(ByteArray.mk #[97], 1)] [ByteArray.mk #[109]] L (.mk s) then 0 else 6 := by
  unfold checkV
  rw [hf]
  have h1 : formB ([(ByteArray.mk #[103], 0)], [(ByteArray.mk #[97], 1)], [ByteArray.mk #[109]], [(ByteArray.mk #[116], L, [fT2 s])]) = smB (.mk s) := by
    show (true && (([ByteArray.mk #[109]] : List ByteArray).all nameB && (([(ByteArray.mk #[103], 0)] : List Gb).all glB && (([(ByteArray.mk #[97], 1)] : List Gb).all arB && ((nameB (ByteArray.mk #[116]) && (L.all nameB && (smB (.mk s) && true))) && true))))) = _
    rw [show ([ByteArray.mk #[109]] : List ByteArray).all nameB = true by kernel_rfl, show ([(ByteArray.mk #[103], 0)] : List Gb).all glB = true by kernel_rfl, show ([(ByteArray.mk #[97], 1)] : List Gb).all arB = true by kernel_rfl, show nameB (ByteArray.mk #[116]) = true by kernel_rfl, hn]
    simp only [Bool.true_and, Bool.and_true]
  have h2 : aloneB ([(ByteArray.mk #[103], 0)], [(ByteArray.mk #[97], 1)], [ByteArray.mk #[109]], [(ByteArray.mk #[116], L, [fT2 s])]) = !(twB ([ByteArray.mk #[103], ByteArray.mk #[97], ByteArray.mk #[109]] ++ L)) := by
    show (!(twB ([ByteArray.mk #[103], ByteArray.mk #[97], ByteArray.mk #[109]] ++ L) || false) && !(twB [ByteArray.mk #[116]])) = _
    rw [show twB [ByteArray.mk #[116]] = false by kernel_rfl, Bool.or_false]
    simp only [Bool.not_false, Bool.and_true]
  have h3 : usesB ([(ByteArray.mk #[103], 0)], [(ByteArray.mk #[97], 1)], [ByteArray.mk #[109]], [(ByteArray.mk #[116], L, [fT2 s])]) = smU [(ByteArray.mk #[103], 0)] [(ByteArray.mk #[97], 1)] [ByteArray.mk #[109]] L (.mk s) := by
    show ((smU [(ByteArray.mk #[103], 0)] [(ByteArray.mk #[97], 1)] [ByteArray.mk #[109]] L (.mk s) && true) && true) = _
    rw [Bool.and_true, Bool.and_true]
  rw [h1, h2, h3, Bool.not_not]
  rfl
theorem tw1 : twB ([ByteArray.mk #[103], ByteArray.mk #[97], ByteArray.mk #[109]] ++ [ByteArray.mk #[118]]) = false := by kernel_rfl
theorem tw2 : twB ([ByteArray.mk #[103], ByteArray.mk #[97], ByteArray.mk #[109]] ++ [ByteArray.mk #[118], ByteArray.mk #[103]]) = true := by kernel_rfl
theorem hv : varU [(ByteArray.mk #[103], 0)] [ByteArray.mk #[118]] (ByteArray.mk #[118]) = true := by kernel_rfl
theorem k_ok0 (a0 : ByteArray) (hn : a0.data.toList.length ≤ 9223372036854775807) : ok2 (.mk (1, ByteArray.mk #[118], (0, 0, 0, ByteArray.empty, []), (2, 0, 0, a0, []), (0, 0, [], []), [], [])) := .mk (by decide) oz0 (.mk hn (by simp) (by simp)) oz1 (by simp) (by simp) (by simp) (by simp)
theorem k_sm0 (a0 : ByteArray) : smB (.mk (1, ByteArray.mk #[118], (0, 0, 0, ByteArray.empty, []), (2, 0, 0, a0, []), (0, 0, [], []), [], [])) = nameB a0 := by
    simp only [smB_eq, exB_eq, nv, Int.reduceBEq, cond_true, cond_false, Bool.true_and, Bool.and_true, List.length_nil, List.all_nil, beq_self_eq_true]
theorem k_su0 (a0 : ByteArray) : smU [(ByteArray.mk #[103], 0)] [(ByteArray.mk #[97], 1)] [ByteArray.mk #[109]] [ByteArray.mk #[118]] (.mk (1, ByteArray.mk #[118], (0, 0, 0, ByteArray.empty, []), (2, 0, 0, a0, []), (0, 0, [], []), [], [])) = (a0.toList == (ByteArray.mk #[118]).toList || a0.toList == (ByteArray.mk #[103]).toList) := by
    simp only [smU_eq, exU_eq, hv, Int.reduceBEq, cond_true, cond_false, Bool.true_and, Bool.and_true, Bool.not_true, Bool.not_false, Bool.false_or, Bool.true_or, List.all_nil]
    unfold varU
    simp only [List.any_cons, List.any_nil, Bool.or_false]
    rfl
theorem k_c0 (a0 : ByteArray) (hn : a0.data.toList.length ≤ 9223372036854775807) : G_check_Check (([(ByteArray.mk #[103], 0)], [(ByteArray.mk #[97], 1)], [ByteArray.mk #[109]], [(ByteArray.mk #[116], [ByteArray.mk #[118]], [fT2 (1, ByteArray.mk #[118], (0, 0, 0, ByteArray.empty, []), (2, 0, 0, a0, []), (0, 0, [], []), [], [])])]), ()) = some (bif !nameB a0 then 2 else bif (a0.toList == (ByteArray.mk #[118]).toList || a0.toList == (ByteArray.mk #[103]).toList) then 0 else 6) := by
  refine (n_check _ (ok_pgm [ByteArray.mk #[118]] (1, ByteArray.mk #[118], (0, 0, 0, ByteArray.empty, []), (2, 0, 0, a0, []), (0, 0, [], []), [], []) (by decide) (by intro x hx; simp only [List.mem_singleton] at hx; subst hx; decide) (k_ok0 a0 hn))).trans ?_
  rw [val_pgm _ _ (by kernel_rfl) (by kernel_rfl), k_sm0, tw1, k_su0]; rfl
theorem k_r0 (a0 : ByteArray) (hn : a0.data.toList.length ≤ 9223372036854775807) : G_ref7_Check (([(ByteArray.mk #[103], 0)], [(ByteArray.mk #[97], 1)], [ByteArray.mk #[109]], [(ByteArray.mk #[116], [ByteArray.mk #[118]], [fT2 (1, ByteArray.mk #[118], (0, 0, 0, ByteArray.empty, []), (2, 0, 0, a0, []), (0, 0, [], []), [], [])])]), ()) = some (bif !nameB a0 then 2 else bif (a0.toList == (ByteArray.mk #[118]).toList || a0.toList == (ByteArray.mk #[103]).toList) then 0 else 6) := by
  refine (n_ref_check _ (ok_pgm [ByteArray.mk #[118]] (1, ByteArray.mk #[118], (0, 0, 0, ByteArray.empty, []), (2, 0, 0, a0, []), (0, 0, [], []), [], []) (by decide) (by intro x hx; simp only [List.mem_singleton] at hx; subst hx; decide) (k_ok0 a0 hn))).trans ?_
  rw [val_pgm _ _ (by kernel_rfl) (by kernel_rfl), k_sm0, tw1, k_su0]; rfl
theorem k_d0 (a0 : ByteArray) (hn : a0.data.toList.length ≤ 9223372036854775807) : G_check_Check (([(ByteArray.mk #[103], 0)], [(ByteArray.mk #[97], 1)], [ByteArray.mk #[109]], [(ByteArray.mk #[116], [ByteArray.mk #[118], ByteArray.mk #[103]], [fT2 (1, ByteArray.mk #[118], (0, 0, 0, ByteArray.empty, []), (2, 0, 0, a0, []), (0, 0, [], []), [], [])])]), ()) = some (bif !nameB a0 then 2 else 5) := by
  refine (n_check _ (ok_pgm [ByteArray.mk #[118], ByteArray.mk #[103]] (1, ByteArray.mk #[118], (0, 0, 0, ByteArray.empty, []), (2, 0, 0, a0, []), (0, 0, [], []), [], []) (by decide) (by intro x hx; simp only [List.mem_cons, List.not_mem_nil, or_false] at hx; rcases hx with rfl | rfl <;> decide) (k_ok0 a0 hn))).trans ?_
  rw [val_pgm _ _ (by kernel_rfl) (by kernel_rfl), k_sm0, tw2]; rfl
theorem k_ok1 (a0 : ByteArray) (hn : a0.data.toList.length ≤ 9223372036854775807) : ok2 (.mk (3, a0, (0, 0, 0, ByteArray.empty, []), (0, 0, 0, ByteArray.empty, []), (0, 0, [], []), [], [])) := .mk hn oz0 oz0 oz1 (by simp) (by simp) (by simp) (by simp)
theorem k_sm1 (a0 : ByteArray) : smB (.mk (3, a0, (0, 0, 0, ByteArray.empty, []), (0, 0, 0, ByteArray.empty, []), (0, 0, [], []), [], [])) = nameB a0 := by
    simp only [smB_eq, Int.reduceBEq, cond_true, cond_false]
theorem k_su1 (a0 : ByteArray) : smU [(ByteArray.mk #[103], 0)] [(ByteArray.mk #[97], 1)] [ByteArray.mk #[109]] [ByteArray.mk #[118]] (.mk (3, a0, (0, 0, 0, ByteArray.empty, []), (0, 0, 0, ByteArray.empty, []), (0, 0, [], []), [], [])) = (a0.toList == (ByteArray.mk #[109]).toList) := by
    simp only [smU_eq, Int.reduceBEq, cond_true, cond_false, List.any_cons, List.any_nil, Bool.or_false]
    rfl
theorem k_c1 (a0 : ByteArray) (hn : a0.data.toList.length ≤ 9223372036854775807) : G_check_Check (([(ByteArray.mk #[103], 0)], [(ByteArray.mk #[97], 1)], [ByteArray.mk #[109]], [(ByteArray.mk #[116], [ByteArray.mk #[118]], [fT2 (3, a0, (0, 0, 0, ByteArray.empty, []), (0, 0, 0, ByteArray.empty, []), (0, 0, [], []), [], [])])]), ()) = some (bif !nameB a0 then 2 else bif (a0.toList == (ByteArray.mk #[109]).toList) then 0 else 6) := by
  refine (n_check _ (ok_pgm [ByteArray.mk #[118]] (3, a0, (0, 0, 0, ByteArray.empty, []), (0, 0, 0, ByteArray.empty, []), (0, 0, [], []), [], []) (by decide) (by intro x hx; simp only [List.mem_singleton] at hx; subst hx; decide) (k_ok1 a0 hn))).trans ?_
  rw [val_pgm _ _ (by kernel_rfl) (by kernel_rfl), k_sm1, tw1, k_su1]; rfl
theorem k_r1 (a0 : ByteArray) (hn : a0.data.toList.length ≤ 9223372036854775807) : G_ref7_Check (([(ByteArray.mk #[103], 0)], [(ByteArray.mk #[97], 1)], [ByteArray.mk #[109]], [(ByteArray.mk #[116], [ByteArray.mk #[118]], [fT2 (3, a0, (0, 0, 0, ByteArray.empty, []), (0, 0, 0, ByteArray.empty, []), (0, 0, [], []), [], [])])]), ()) = some (bif !nameB a0 then 2 else bif (a0.toList == (ByteArray.mk #[109]).toList) then 0 else 6) := by
  refine (n_ref_check _ (ok_pgm [ByteArray.mk #[118]] (3, a0, (0, 0, 0, ByteArray.empty, []), (0, 0, 0, ByteArray.empty, []), (0, 0, [], []), [], []) (by decide) (by intro x hx; simp only [List.mem_singleton] at hx; subst hx; decide) (k_ok1 a0 hn))).trans ?_
  rw [val_pgm _ _ (by kernel_rfl) (by kernel_rfl), k_sm1, tw1, k_su1]; rfl
theorem k_d1 (a0 : ByteArray) (hn : a0.data.toList.length ≤ 9223372036854775807) : G_check_Check (([(ByteArray.mk #[103], 0)], [(ByteArray.mk #[97], 1)], [ByteArray.mk #[109]], [(ByteArray.mk #[116], [ByteArray.mk #[118], ByteArray.mk #[103]], [fT2 (3, a0, (0, 0, 0, ByteArray.empty, []), (0, 0, 0, ByteArray.empty, []), (0, 0, [], []), [], [])])]), ()) = some (bif !nameB a0 then 2 else 5) := by
  refine (n_check _ (ok_pgm [ByteArray.mk #[118], ByteArray.mk #[103]] (3, a0, (0, 0, 0, ByteArray.empty, []), (0, 0, 0, ByteArray.empty, []), (0, 0, [], []), [], []) (by decide) (by intro x hx; simp only [List.mem_cons, List.not_mem_nil, or_false] at hx; rcases hx with rfl | rfl <;> decide) (k_ok1 a0 hn))).trans ?_
  rw [val_pgm _ _ (by kernel_rfl) (by kernel_rfl), k_sm1, tw2]; rfl
theorem k_ok2 (a0 : ByteArray) (hn : a0.data.toList.length ≤ 9223372036854775807) : ok2 (.mk (1, ByteArray.mk #[118], (0, 0, 0, ByteArray.empty, []), (3, 0, 0, a0, [fT0 (1, 0, 0, ByteArray.empty, [])]), (0, 0, [], []), [], [])) := .mk (by decide) oz0 (.mk hn (by simp) (by intro d hd; simp only [List.mem_singleton] at hd; subst hd; exact .mk (by decide) (by simp) (by simp))) oz1 (by simp) (by simp) (by simp) (by simp)
theorem k_sm2 (a0 : ByteArray) : smB (.mk (1, ByteArray.mk #[118], (0, 0, 0, ByteArray.empty, []), (3, 0, 0, a0, [fT0 (1, 0, 0, ByteArray.empty, [])]), (0, 0, [], []), [], [])) = nameB a0 := by
    show smB (.mk (1, ByteArray.mk #[118], (0, 0, 0, ByteArray.empty, []), (3, 0, 0, a0, [.mk (1, 0, 0, ByteArray.empty, [])]), (0, 0, [], []), [], [])) = _
    simp only [smB_eq, exB_eq, nv, Int.reduceBEq, Int.reduceLE, decide_true, cond_true, cond_false, Bool.true_and, Bool.and_true, List.length_nil, List.length_cons, List.all_nil, List.all_cons, beq_self_eq_true, Nat.zero_add]
theorem k_su2 (a0 : ByteArray) : smU [(ByteArray.mk #[103], 0)] [(ByteArray.mk #[97], 1)] [ByteArray.mk #[109]] [ByteArray.mk #[118]] (.mk (1, ByteArray.mk #[118], (0, 0, 0, ByteArray.empty, []), (3, 0, 0, a0, [fT0 (1, 0, 0, ByteArray.empty, [])]), (0, 0, [], []), [], [])) = (a0.toList == (ByteArray.mk #[97]).toList) := by
    show smU [(ByteArray.mk #[103], 0)] [(ByteArray.mk #[97], 1)] [ByteArray.mk #[109]] [ByteArray.mk #[118]] (.mk (1, ByteArray.mk #[118], (0, 0, 0, ByteArray.empty, []), (3, 0, 0, a0, [.mk (1, 0, 0, ByteArray.empty, [])]), (0, 0, [], []), [], [])) = _
    simp only [smU_eq, exU_eq, hv, Int.reduceBEq, cond_true, cond_false, Bool.true_and, Bool.and_true, Bool.not_true, Bool.not_false, Bool.false_or, Bool.true_or, List.all_nil, List.all_cons, List.any_cons, List.any_nil, Bool.or_false]
    rfl
theorem k_c2 (a0 : ByteArray) (hn : a0.data.toList.length ≤ 9223372036854775807) : G_check_Check (([(ByteArray.mk #[103], 0)], [(ByteArray.mk #[97], 1)], [ByteArray.mk #[109]], [(ByteArray.mk #[116], [ByteArray.mk #[118]], [fT2 (1, ByteArray.mk #[118], (0, 0, 0, ByteArray.empty, []), (3, 0, 0, a0, [fT0 (1, 0, 0, ByteArray.empty, [])]), (0, 0, [], []), [], [])])]), ()) = some (bif !nameB a0 then 2 else bif (a0.toList == (ByteArray.mk #[97]).toList) then 0 else 6) := by
  refine (n_check _ (ok_pgm [ByteArray.mk #[118]] (1, ByteArray.mk #[118], (0, 0, 0, ByteArray.empty, []), (3, 0, 0, a0, [fT0 (1, 0, 0, ByteArray.empty, [])]), (0, 0, [], []), [], []) (by decide) (by intro x hx; simp only [List.mem_singleton] at hx; subst hx; decide) (k_ok2 a0 hn))).trans ?_
  rw [val_pgm _ _ (by kernel_rfl) (by kernel_rfl), k_sm2, tw1, k_su2]; rfl
theorem k_r2 (a0 : ByteArray) (hn : a0.data.toList.length ≤ 9223372036854775807) : G_ref7_Check (([(ByteArray.mk #[103], 0)], [(ByteArray.mk #[97], 1)], [ByteArray.mk #[109]], [(ByteArray.mk #[116], [ByteArray.mk #[118]], [fT2 (1, ByteArray.mk #[118], (0, 0, 0, ByteArray.empty, []), (3, 0, 0, a0, [fT0 (1, 0, 0, ByteArray.empty, [])]), (0, 0, [], []), [], [])])]), ()) = some (bif !nameB a0 then 2 else bif (a0.toList == (ByteArray.mk #[97]).toList) then 0 else 6) := by
  refine (n_ref_check _ (ok_pgm [ByteArray.mk #[118]] (1, ByteArray.mk #[118], (0, 0, 0, ByteArray.empty, []), (3, 0, 0, a0, [fT0 (1, 0, 0, ByteArray.empty, [])]), (0, 0, [], []), [], []) (by decide) (by intro x hx; simp only [List.mem_singleton] at hx; subst hx; decide) (k_ok2 a0 hn))).trans ?_
  rw [val_pgm _ _ (by kernel_rfl) (by kernel_rfl), k_sm2, tw1, k_su2]; rfl
theorem k_d2 (a0 : ByteArray) (hn : a0.data.toList.length ≤ 9223372036854775807) : G_check_Check (([(ByteArray.mk #[103], 0)], [(ByteArray.mk #[97], 1)], [ByteArray.mk #[109]], [(ByteArray.mk #[116], [ByteArray.mk #[118], ByteArray.mk #[103]], [fT2 (1, ByteArray.mk #[118], (0, 0, 0, ByteArray.empty, []), (3, 0, 0, a0, [fT0 (1, 0, 0, ByteArray.empty, [])]), (0, 0, [], []), [], [])])]), ()) = some (bif !nameB a0 then 2 else 5) := by
  refine (n_check _ (ok_pgm [ByteArray.mk #[118], ByteArray.mk #[103]] (1, ByteArray.mk #[118], (0, 0, 0, ByteArray.empty, []), (3, 0, 0, a0, [fT0 (1, 0, 0, ByteArray.empty, [])]), (0, 0, [], []), [], []) (by decide) (by intro x hx; simp only [List.mem_cons, List.not_mem_nil, or_false] at hx; rcases hx with rfl | rfl <;> decide) (k_ok2 a0 hn))).trans ?_
  rw [val_pgm _ _ (by kernel_rfl) (by kernel_rfl), k_sm2, tw2]; rfl
theorem checkKinds (a0 : ByteArray) (a1 : Int) (hn : a0.data.toList.length ≤ 9223372036854775807) : g_law7_CheckKinds a0 a1 = some true := by
  by_cases h1 : a1 < 0
  · unfold g_law7_CheckKinds
    rw [decide_eq_true h1]; rfl
  by_cases h2 : a1 > 2
  · unfold g_law7_CheckKinds
    rw [decide_eq_false h1, decide_eq_true h2]; rfl
  have : a1 = 0 ∨ a1 = 1 ∨ a1 = 2 := by omega
  rcases this with rfl | rfl | rfl
  · unfold g_law7_CheckKinds
    simp only [show decide ((0 : Int) < 0) = false by decide, show decide ((0 : Int) > 2) = false by decide, Int.reduceBEq, cond_true, cond_false, show Int.toNat (0 : Int) = 0 from rfl, List.set_cons_zero, k_c0 a0 hn, k_r0 a0 hn, k_d0 a0 hn, optC_some]
    cases nameB a0 <;> cases a0.toList == (ByteArray.mk #[103]).toList <;> cases a0.toList == (ByteArray.mk #[118]).toList <;> cases decide ((a0.size : Int) > 60) <;> rfl
  · unfold g_law7_CheckKinds
    simp only [show decide ((1 : Int) < 0) = false by decide, show decide ((1 : Int) > 2) = false by decide, Int.reduceBEq, cond_true, cond_false, show Int.toNat (0 : Int) = 0 from rfl, List.set_cons_zero, k_c1 a0 hn, k_r1 a0 hn, k_d1 a0 hn, optC_some]
    cases nameB a0 <;> cases a0.toList == (ByteArray.mk #[103]).toList <;> cases a0.toList == (ByteArray.mk #[118]).toList <;> cases a0.toList == (ByteArray.mk #[109]).toList <;> cases decide ((a0.size : Int) > 60) <;> rfl
  · unfold g_law7_CheckKinds
    simp only [show decide ((2 : Int) < 0) = false by decide, show decide ((2 : Int) > 2) = false by decide, Int.reduceBEq, cond_true, cond_false, show Int.toNat (0 : Int) = 0 from rfl, List.set_cons_zero, k_c2 a0 hn, k_r2 a0 hn, k_d2 a0 hn, optC_some]
    cases nameB a0 <;> cases a0.toList == (ByteArray.mk #[103]).toList <;> cases a0.toList == (ByteArray.mk #[118]).toList <;> cases a0.toList == (ByteArray.mk #[97]).toList <;> cases decide ((a0.size : Int) > 60) <;> rfl
end Go.Proofs.YtmjbedjnojcmfaaDoor.Ex

namespace Go.Proofs.YtmjbedjnojcmfaaDoor.Ex
set_option linter.unusedSectionVars false
section
variable [RT]

theorem law_con {sh : List Sh} {G : ShDs sh → Option Bool} {args : List AV} {x : ShDs sh} (h1 : rds sh args = some x) (h2 : AV.idsL args = []) (h3 : G x = some true) :
    ∃ fb, ex ((conP true sh (.dat .bool) G args).bind (finP true)) false ⟨[], 0⟩ ⟨[], []⟩ = some (.bool true, ⟨[], 0⟩, fb) := by
  refine ⟨⟨[], []⟩, ?_⟩
  unfold ex conP
  rw [frzL_free true args _ h2, h1]
  simp only [Prog.bind, run, Option.bind_some]
  exact (congrArg (fun o => Option.bind o _) h3).trans (finP_free _ rfl _ _ _)
end
end Go.Proofs.YtmjbedjnojcmfaaDoor.Ex

namespace Go.Proofs.YtmjbedjnojcmfaaDoor.Ex
theorem str_of {s : ByteArray} (h : DOkS reachBytes .str s) : s.data.toList.length ≤ 9223372036854775807 := by
  have h : s.size ≤ maxLen := h
  unfold maxLen at h
  exact h
end Go.Proofs.YtmjbedjnojcmfaaDoor.Ex

