/- A part of the proofs of which programs may be: BI. -/
import Derived.Test.YtmjbedjnojcmfaaGreatDoorBH
import Derived.Test.YtmjbedjnojcmfaaGreatDoorBF
import Derived.Test.YtmjbedjnojcmfaaGreatDoorBD
import Derived.Test.YtmjbedjnojcmfaaGreatDoorBG
namespace Go.Proofs.YtmjbedjnojcmfaaGreatDoor.Ex
open Go.Proofs
set_option maxRecDepth 100000
set_option maxHeartbeats 2000000
set_option linter.unusedVariables false
set_option linter.unusedSimpArgs false
theorem num_rise (u : U) (L : List Int) (hr : L.Pairwise (· < ·)) (hl : L.length ≤ 10000) (hp : 1 ≤ L.length) : L_law8_CfgNumbers_6_0_0 (L, 1, u) = some (.inl (L, u)) := by
  have go : ∀ (r : List Int) (i k : Nat), 1 ≤ i → L.drop i = r → i + r.length = L.length →
      iterO (fun x : X_law8_CfgNumbers_6_0_0 => st_law8_CfgNumbers_6_0_0 x.1 x.2.1 x.2.2.1 x.2.2.2.1 x.2.2.2.2.1 x.2.2.2.2.2) (k + r.length + 1) (L, (i : Int), u) = some (.inl (L, u)) := by
    intro r
    induction r with
    | nil =>
      intro i k h1 hd hi
      have e : decide ((i : Int) < (L.length : Int)) = false := decide_eq_false (by simp at hi; omega)
      simp only [iterO, st_law8_CfgNumbers_6_0_0, e, cond_false]
    | cons d r ih =>
      intro i k h1 hd hi
      rw [List.length_cons] at hi ⊢
      have hc : L[i]? = some d := by
        have := congrArg (fun q => q[0]?) hd
        simpa using this
      have e : decide ((i : Int) < (L.length : Int)) = true := decide_eq_true (by omega)
      have e0 : decide (0 ≤ (i : Int)) = true := decide_eq_true (by omega)
      have ew : IntKind.i64.wrap ((i : Int) - 1) = ((i - 1 : Nat) : Int) := by rw [wrap_fits (by omega) (by omega)]; omega
      have e1 : decide (0 ≤ ((i - 1 : Nat) : Int)) = true := decide_eq_true (by omega)
      have hb : i - 1 < L.length := by omega
      have hp : L[i - 1]? = some L[i - 1] := List.getElem?_eq_getElem hb
      have w := wrap_next (i := i) (n := L.length) (by omega) (by omega)
      have hlt : L[i - 1] < d := by
        obtain ⟨h2, h3⟩ := List.getElem?_eq_some_iff.1 hc
        rw [← h3]
        exact List.pairwise_iff_getElem.1 hr (i - 1) i hb h2 (by omega)
      have e2 : decide (L[i - 1] ≥ d) = false := decide_eq_false (by omega)
      rw [show k + (r.length + 1) + 1 = (k + r.length + 1) + 1 by omega, iterO]
      simp only [st_law8_CfgNumbers_6_0_0, e, e0, e1, ew, cond_true, Int.toNat_natCast, hp, hc, optC_some, e2, cond_false, w]
      exact ih (i + 1) k (by omega) (by rw [← List.drop_drop, hd]; rfl) (by omega)
  unfold L_law8_CfgNumbers_6_0_0
  have := go (L.drop 1) 1 (FUEL - (L.length - 1) - 1) (Nat.le_refl _) rfl (by rw [List.length_drop]; omega)
  rw [List.length_drop, show FUEL - (L.length - 1) - 1 + (L.length - 1) + 1 = FUEL by unfold FUEL; omega] at this
  exact this
theorem num_find (u : U) (L : List Int) (s5 s6 : Int) (a : A) (s : Bool) (hl : L.length ≤ 10000) : L_law8_CfgNumbers_6_6_0 (L, s5, s6, s, 0, u.1, u.2.1, u.2.2.1, u.2.2.2, a) = some (L, s5, s6, s || L.any (· == a.2.2.2.2.2.1), u) := by
  obtain ⟨k, T, X, Y, G, N, op, nx, el⟩ := a
  have go : ∀ (r : List Int) (i : Nat) (s : Bool), rangeO (fun i s d => bd_law8_CfgNumbers_6_6_0 s5 s6 u.1 u.2.1 u.2.2.1 u.2.2.2 k T X Y G N op nx el L i s d) (fun s => fn_law8_CfgNumbers_6_6_0 s5 s6 u.1 u.2.1 u.2.2.1 u.2.2.2 k T X Y G N op nx el L s) i r s = some (L, s5, s6, s || r.any (· == N), u) := by
    intro r
    induction r with
    | nil => intro i s; rw [rangeO, List.any_nil, Bool.or_false]; rfl
    | cons d r ih =>
      intro i s
      rw [rangeO]
      unfold bd_law8_CfgNumbers_6_6_0
      cases s
      · simp only [Bool.not_false, cond_true, List.any_cons, Bool.false_or]
        exact ih (i + 1) (d == N)
      · rfl
  exact (rg_law8_CfgNumbers_6_6_0 s5 s6 u.1 u.2.1 u.2.2.1 u.2.2.2 k T X Y G N op nx el L s (by omega)).trans (go L 0 s)
theorem num_acts (u : U) (L : List Int) (j : Nat) (c : C) (hc : u.2.2.2[j]? = some c) (hl : L.length ≤ 10000) (hn : c.2.length ≤ 60) (h : ∀ a ∈ c.2, a.1 = 1 → a.2.2.2.2.2.1 ∈ L) : L_law8_CfgNumbers_6_4_0 (L, (j : Int), 0, u) = some (.inl (L, (j : Int), u)) := by
  have go : ∀ (r : List A) (i k : Nat), c.2.drop i = r → i + r.length = c.2.length →
      iterO (fun x : X_law8_CfgNumbers_6_4_0 => st_law8_CfgNumbers_6_4_0 x.1 x.2.1 x.2.2.1 x.2.2.2.1 x.2.2.2.2.1 x.2.2.2.2.2.1 x.2.2.2.2.2.2) (k + r.length + 1) (L, (j : Int), (i : Int), u) = some (.inl (L, (j : Int), u)) := by
    have ej : decide (0 ≤ (j : Int)) = true := decide_eq_true (by omega)
    intro r
    induction r with
    | nil =>
      intro i k hd hi
      have e : decide ((i : Int) < (c.2.length : Int)) = false := decide_eq_false (by simp at hi; omega)
      simp only [iterO, st_law8_CfgNumbers_6_4_0, ej, cond_true, Int.toNat_natCast, hc, optC_some, e, cond_false]
    | cons d r ih =>
      intro i k hd hi
      rw [List.length_cons] at hi ⊢
      have hg : c.2[i]? = some d := by
        have := congrArg (fun q => q[0]?) hd
        simpa using this
      have e : decide ((i : Int) < (c.2.length : Int)) = true := decide_eq_true (by omega)
      have e0 : decide (0 ≤ (i : Int)) = true := decide_eq_true (by omega)
      have w := wrap_next (i := i) (n := c.2.length) (by omega) (by omega)
      have f := num_find u L (j : Int) (i : Int) d (d.1 != 1) hl
      have ft : (d.1 != 1 || L.any (· == d.2.2.2.2.2.1)) = true := by
        by_cases h1 : d.1 = 1
        · rw [show (L.any (· == d.2.2.2.2.2.1)) = true from List.any_eq_true.2 ⟨_, h d (List.mem_of_getElem? hg) h1, by simp⟩, Bool.or_true]
        · rw [show (d.1 != 1) = true by simp [h1]]; rfl
      rw [ft] at f
      rw [show k + (r.length + 1) + 1 = (k + r.length + 1) + 1 by omega, iterO]
      simp only [st_law8_CfgNumbers_6_4_0, ej, e, e0, cond_true, Int.toNat_natCast, hc, hg, optC_some, f, Bool.not_true, cond_false, w]
      exact ih (i + 1) k (by rw [← List.drop_drop, hd]; rfl) (by omega)
  unfold L_law8_CfgNumbers_6_4_0
  have := go c.2 0 (FUEL - c.2.length - 1) rfl (by simp)
  rw [show FUEL - c.2.length - 1 + c.2.length + 1 = FUEL by unfold FUEL; omega] at this
  exact this
theorem num_all (u : U) (L : List Int) (hl : L.length ≤ 10000) (hu : unitOK u) (h : ∀ c ∈ u.2.2.2, ∀ a ∈ c.2, a.1 = 1 → a.2.2.2.2.2.1 ∈ L) : L_law8_CfgNumbers_6_2_0 (L, 0, u) = some (.inl ()) := by
  have ht := hu.t
  have go : ∀ (r : List C) (i k : Nat), u.2.2.2.drop i = r → i + r.length = u.2.2.2.length →
      iterO (fun x : X_law8_CfgNumbers_6_2_0 => st_law8_CfgNumbers_6_2_0 x.1 x.2.1 x.2.2.1 x.2.2.2.1 x.2.2.2.2.1 x.2.2.2.2.2) (k + r.length + 1) (L, (i : Int), u) = some (.inl ()) := by
    intro r
    induction r with
    | nil =>
      intro i k hd hi
      have e : decide ((i : Int) < (u.2.2.2.length : Int)) = false := decide_eq_false (by simp at hi; omega)
      simp only [iterO, st_law8_CfgNumbers_6_2_0, e, cond_false]
    | cons d r ih =>
      intro i k hd hi
      rw [List.length_cons] at hi ⊢
      have hg : u.2.2.2[i]? = some d := by
        have := congrArg (fun q => q[0]?) hd
        simpa using this
      have hm := List.mem_of_getElem? hg
      have e : decide ((i : Int) < (u.2.2.2.length : Int)) = true := decide_eq_true (by omega)
      have w := wrap_next (i := i) (n := u.2.2.2.length) (by omega) (by omega)
      have f := num_acts u L i d hg hl (hu.ts d hm).n.2 (h d hm)
      rw [show k + (r.length + 1) + 1 = (k + r.length + 1) + 1 by omega, iterO]
      simp only [st_law8_CfgNumbers_6_2_0, e, cond_true, optC_some, f, Sum.elim_inl, w]
      exact ih (i + 1) k (by rw [← List.drop_drop, hd]; rfl) (by omega)
  unfold L_law8_CfgNumbers_6_2_0
  have := go u.2.2.2 0 (FUEL - u.2.2.2.length - 1) rfl (by simp)
  rw [show FUEL - u.2.2.2.length - 1 + u.2.2.2.length + 1 = FUEL by unfold FUEL; omega] at this
  exact this
theorem cfgNumbers (u : U) (hs : sizeU u) : g_law8_CfgNumbers u = some true := by
  unfold g_law8_CfgNumbers
  obtain ⟨b, hb⟩ := n_wide u hs
  simp only [G_law8_wide, hb, optC_some]
  by_cases hbt : b = true
  · subst hbt; rfl
  obtain rfl : b = false := by simpa using hbt
  obtain ⟨b, hb, hu⟩ := n_ref8_Is u hs
  simp only [G_ref8_Is, hb, optC_some, cond_false]
  cases b
  · rfl
  have hu := hu rfl
  have hst := steps_len u hu
  have h0 : (0 : Int) ∈ stepsV u := (steps_mem u 0).2 (.inr (by simp))
  have e1 := num_rise u (stepsV u) (steps_rise u) (by omega) (List.length_pos_of_mem h0)
  have e2 := num_all u (stepsV u) (by omega) hu fun c hc a ha h1 => (steps_mem u _).2 (.inl ⟨by
    unfold allN
    refine List.mem_append_right _ (List.mem_append_right _ (List.mem_flatMap.2 ⟨c, hc, List.mem_flatMap.2 ⟨a, ha, ?_⟩⟩))
    unfold numA
    rw [show (a.1 == 1) = true by simp [h1]]
    simp, ((hu.ts c hc).a a ha).n⟩)
  simp only [Bool.not_true, cond_false, G_cfg_Steps, n_cfg_Steps u hu, optC_some, e1, Sum.elim_inl, e2]
  rfl
end Go.Proofs.YtmjbedjnojcmfaaGreatDoor.Ex

namespace Go.Proofs.YtmjbedjnojcmfaaGreatDoor.Ex
set_option linter.unusedSectionVars false
section
variable [RT]

theorem law_con {sh : List Sh} {G : ShDs sh → Option Bool} {args : List AV} {x : ShDs sh} (h1 : rds sh args = some x) (h2 : AV.idsL args = []) (h3 : G x = some true) :
    ∃ fb, ex ((conP true sh (.dat .bool) G args).bind (finP true)) false ⟨[], 0⟩ ⟨[], []⟩ = some (.bool true, ⟨[], 0⟩, fb) := by
  refine ⟨⟨[], []⟩, ?_⟩
  unfold ex conP
  rw [frzL_free true args _ h2, h1]
  simp only [Prog.bind, run, Option.bind_some]
  exact (congrArg (fun o => Option.bind o _) h3).trans (finP_free _ rfl _ _ _)
end
end Go.Proofs.YtmjbedjnojcmfaaGreatDoor.Ex

namespace Go.Proofs.YtmjbedjnojcmfaaGreatDoor.Ex
theorem reach_lt : reachBytes < 9223372036854775807 := by decide
theorem size_l {e : Ty} {l : List (D e)} (h : DOkS reachBytes (.sl e) l) : List.length (α := D e) l < 9223372036854775807 := Nat.lt_of_le_of_lt h.1 reach_lt
theorem sizeU_of {u : U} (h : DOkS reachBytes tU u) : sizeU u :=
  ⟨Nat.lt_of_le_of_lt h.1.1 reach_lt, Nat.lt_of_le_of_lt h.2.1.1 reach_lt, Nat.lt_of_le_of_lt h.2.2.2.1 reach_lt, fun c hc => Nat.lt_of_le_of_lt (h.2.2.2.2 c hc).2.1 reach_lt⟩
end Go.Proofs.YtmjbedjnojcmfaaGreatDoor.Ex

