/- A part of the proofs of the laws of tables: TG. -/
import Derived.Test.YtbdcblpjemmipaaTF
import Derived.Test.YtbdcblpjemmipaaTE
import Derived.Laws.CopyRow
import Derived.Lib.AppendZerosOnto
import Derived.Shelf.Spec.SlicesInsert
namespace Go.Proofs.Ytbdcblpjemmipaa.Ex
set_option maxRecDepth 100000
set_option linter.unusedVariables false
set_option linter.unusedSimpArgs false
theorem iterO_mono {X Y : Type} {step : X → Option (X ⊕ Y)} : ∀ (n m : Nat) (x : X) (y : Y), n ≤ m → iterO step n x = some y → iterO step m x = some y
  | 0, _, _, _, _, e => nomatch e
  | n + 1, m, x, y, h, e => by
    obtain ⟨m, rfl⟩ : ∃ k, m = k + 1 := ⟨m - 1, by omega⟩
    rw [iterO] at e ⊢
    cases hs : step x with
    | none => rw [hs] at e; cases e
    | some r =>
      rw [hs] at e
      cases r with
      | inl x' => exact iterO_mono n m x' y (by omega) e
      | inr y' => exact e
theorem n_ref1_Fits (n : Int) : g_ref1_Fits n = some (fitB n) := by
  unfold g_ref1_Fits fitB
  cases decide (n ≥ -2147483648) <;> rfl
theorem n_ref2_Is (x : I) : g_ref2_Is x = some (isB x) := by
  unfold g_ref2_Is G_ref1_Fits isB
  simp only [n_ref1_Fits, optC_some]
  cases (x.1 == 1 && x.2 == 0)
  · cases decide (x.1 ≤ x.2)
    · rfl
    · cases fitB x.1 <;> rfl
  · rfl
def inB (k n : Int) : Bool := decide (k ≥ 0) && decide (k < n)
theorem n_ref8_in (k n : Int) : g_ref8_in k n = some (inB k n) := by
  unfold g_ref8_in inB
  cases decide (k ≥ 0) <;> rfl
theorem us_0_1 : g_ref8_uses 0 1 = some false := by kernel_rfl
theorem us_0_2 : g_ref8_uses 0 2 = some false := by kernel_rfl
theorem us_0_3 : g_ref8_uses 0 3 = some false := by kernel_rfl
theorem us_0_4 : g_ref8_uses 0 4 = some false := by kernel_rfl
theorem us_1_1 : g_ref8_uses 1 1 = some true := by kernel_rfl
theorem us_1_2 : g_ref8_uses 1 2 = some false := by kernel_rfl
theorem us_1_3 : g_ref8_uses 1 3 = some false := by kernel_rfl
theorem us_1_4 : g_ref8_uses 1 4 = some false := by kernel_rfl
theorem us_2_1 : g_ref8_uses 2 1 = some true := by kernel_rfl
theorem us_2_2 : g_ref8_uses 2 2 = some true := by kernel_rfl
theorem us_2_3 : g_ref8_uses 2 3 = some false := by kernel_rfl
theorem us_2_4 : g_ref8_uses 2 4 = some false := by kernel_rfl
theorem us_3_1 : g_ref8_uses 3 1 = some true := by kernel_rfl
theorem us_3_2 : g_ref8_uses 3 2 = some false := by kernel_rfl
theorem us_3_3 : g_ref8_uses 3 3 = some false := by kernel_rfl
theorem us_3_4 : g_ref8_uses 3 4 = some false := by kernel_rfl
theorem us_4_1 : g_ref8_uses 4 1 = some true := by kernel_rfl
theorem us_4_2 : g_ref8_uses 4 2 = some true := by kernel_rfl
theorem us_4_3 : g_ref8_uses 4 3 = some true := by kernel_rfl
theorem us_4_4 : g_ref8_uses 4 4 = some false := by kernel_rfl
theorem us_5_1 : g_ref8_uses 5 1 = some true := by kernel_rfl
theorem us_5_2 : g_ref8_uses 5 2 = some false := by kernel_rfl
theorem us_5_3 : g_ref8_uses 5 3 = some false := by kernel_rfl
theorem us_5_4 : g_ref8_uses 5 4 = some true := by kernel_rfl
theorem us_6_1 : g_ref8_uses 6 1 = some false := by kernel_rfl
theorem us_6_2 : g_ref8_uses 6 2 = some true := by kernel_rfl
theorem us_6_3 : g_ref8_uses 6 3 = some false := by kernel_rfl
theorem us_6_4 : g_ref8_uses 6 4 = some true := by kernel_rfl
theorem us_7_1 : g_ref8_uses 7 1 = some true := by kernel_rfl
theorem us_7_2 : g_ref8_uses 7 2 = some true := by kernel_rfl
theorem us_7_3 : g_ref8_uses 7 3 = some false := by kernel_rfl
theorem us_7_4 : g_ref8_uses 7 4 = some true := by kernel_rfl
theorem us_8_1 : g_ref8_uses 8 1 = some false := by kernel_rfl
theorem us_8_2 : g_ref8_uses 8 2 = some true := by kernel_rfl
theorem us_8_3 : g_ref8_uses 8 3 = some true := by kernel_rfl
theorem us_8_4 : g_ref8_uses 8 4 = some true := by kernel_rfl
theorem us_9_1 : g_ref8_uses 9 1 = some false := by kernel_rfl
theorem us_9_2 : g_ref8_uses 9 2 = some false := by kernel_rfl
theorem us_9_3 : g_ref8_uses 9 3 = some false := by kernel_rfl
theorem us_9_4 : g_ref8_uses 9 4 = some true := by kernel_rfl
theorem us_10_1 : g_ref8_uses 10 1 = some false := by kernel_rfl
theorem us_10_2 : g_ref8_uses 10 2 = some false := by kernel_rfl
theorem us_10_3 : g_ref8_uses 10 3 = some false := by kernel_rfl
theorem us_10_4 : g_ref8_uses 10 4 = some true := by kernel_rfl
theorem us_11_1 : g_ref8_uses 11 1 = some false := by kernel_rfl
theorem us_11_2 : g_ref8_uses 11 2 = some true := by kernel_rfl
theorem us_11_3 : g_ref8_uses 11 3 = some true := by kernel_rfl
theorem us_11_4 : g_ref8_uses 11 4 = some false := by kernel_rfl
theorem us_12_1 : g_ref8_uses 12 1 = some false := by kernel_rfl
theorem us_12_2 : g_ref8_uses 12 2 = some false := by kernel_rfl
theorem us_12_3 : g_ref8_uses 12 3 = some false := by kernel_rfl
theorem us_12_4 : g_ref8_uses 12 4 = some false := by kernel_rfl
theorem us_13_1 : g_ref8_uses 13 1 = some false := by kernel_rfl
theorem us_13_2 : g_ref8_uses 13 2 = some false := by kernel_rfl
theorem us_13_3 : g_ref8_uses 13 3 = some false := by kernel_rfl
theorem us_13_4 : g_ref8_uses 13 4 = some false := by kernel_rfl
theorem us_14_1 : g_ref8_uses 14 1 = some false := by kernel_rfl
theorem us_14_2 : g_ref8_uses 14 2 = some false := by kernel_rfl
theorem us_14_3 : g_ref8_uses 14 3 = some false := by kernel_rfl
theorem us_14_4 : g_ref8_uses 14 4 = some false := by kernel_rfl
def usesB (k f : Int) : Bool :=
  if f = 1 then k == 1 || k == 2 || k == 3 || k == 4 || k == 5 || k == 7
  else if f = 2 then k == 2 || k == 4 || k == 6 || k == 7 || k == 8 || k == 11
  else if f = 3 then k == 4 || k == 8 || k == 11
  else k == 5 || k == 6 || k == 7 || k == 8 || k == 9 || k == 10
theorem n_ref8_uses (k f : Int) (hk : 0 ≤ k ∧ k ≤ 14) (hf : 1 ≤ f ∧ f ≤ 4) : g_ref8_uses k f = some (usesB k f) := by
  have h1 : k = 0 ∨ k = 1 ∨ k = 2 ∨ k = 3 ∨ k = 4 ∨ k = 5 ∨ k = 6 ∨ k = 7 ∨ k = 8 ∨ k = 9 ∨ k = 10 ∨ k = 11 ∨ k = 12 ∨ k = 13 ∨ k = 14 := by omega
  have h2 : f = 1 ∨ f = 2 ∨ f = 3 ∨ f = 4 := by omega
  rcases h1 with rfl | rfl | rfl | rfl | rfl | rfl | rfl | rfl | rfl | rfl | rfl | rfl | rfl | rfl | rfl <;> rcases h2 with rfl | rfl | rfl | rfl
  · exact us_0_1
  · exact us_0_2
  · exact us_0_3
  · exact us_0_4
  · exact us_1_1
  · exact us_1_2
  · exact us_1_3
  · exact us_1_4
  · exact us_2_1
  · exact us_2_2
  · exact us_2_3
  · exact us_2_4
  · exact us_3_1
  · exact us_3_2
  · exact us_3_3
  · exact us_3_4
  · exact us_4_1
  · exact us_4_2
  · exact us_4_3
  · exact us_4_4
  · exact us_5_1
  · exact us_5_2
  · exact us_5_3
  · exact us_5_4
  · exact us_6_1
  · exact us_6_2
  · exact us_6_3
  · exact us_6_4
  · exact us_7_1
  · exact us_7_2
  · exact us_7_3
  · exact us_7_4
  · exact us_8_1
  · exact us_8_2
  · exact us_8_3
  · exact us_8_4
  · exact us_9_1
  · exact us_9_2
  · exact us_9_3
  · exact us_9_4
  · exact us_10_1
  · exact us_10_2
  · exact us_10_3
  · exact us_10_4
  · exact us_11_1
  · exact us_11_2
  · exact us_11_3
  · exact us_11_4
  · exact us_12_1
  · exact us_12_2
  · exact us_12_3
  · exact us_12_4
  · exact us_13_1
  · exact us_13_2
  · exact us_13_3
  · exact us_13_4
  · exact us_14_1
  · exact us_14_2
  · exact us_14_3
  · exact us_14_4
def hasV (k f v bd : Int) : Bool := if usesB k f = true then inB v bd else v == 0
theorem n_ref8_has (k f v bd : Int) (hk : 0 ≤ k ∧ k ≤ 14) (hf : 1 ≤ f ∧ f ≤ 4) : g_ref8_has k f v bd = some (hasV k f v bd) := by
  unfold g_ref8_has G_ref8_uses G_ref8_in hasV
  simp only [n_ref8_uses k f hk hf, n_ref8_in, optC_some]
  cases usesB k f <;> rfl
def gBd (u : U) (k : Int) : Int := if k = 5 ∨ k = 6 then (u.1.length : Int) else if k = 7 ∨ k = 8 then (u.2.1.length : Int) else u.2.2.1
structure actOK (u : U) (c : C) (a : A) : Prop where
  k1 : 1 ≤ a.1
  k2 : a.1 ≤ 14
  n : fitB a.2.2.2.2.2.1 = true
  n0 : a.1 ≠ 1 → a.2.2.2.2.2.1 = 0
  nx : 0 ≤ a.2.2.2.2.2.2.2.1 ∧ a.2.2.2.2.2.2.2.1 < (c.2.length : Int)
  el : 0 ≤ a.2.2.2.2.2.2.2.2 ∧ a.2.2.2.2.2.2.2.2 < (c.2.length : Int)
  el0 : a.1 ≠ 11 → a.2.2.2.2.2.2.2.2 = 0
  op4 : a.1 = 4 → 1 ≤ a.2.2.2.2.2.2.1 ∧ a.2.2.2.2.2.2.1 ≤ 5
  op11 : a.1 = 11 → 1 ≤ a.2.2.2.2.2.2.1 ∧ a.2.2.2.2.2.2.1 ≤ 6
  op0 : a.1 ≠ 4 → a.1 ≠ 11 → a.2.2.2.2.2.2.1 = 0
  h1 : hasV a.1 1 a.2.1 c.1 = true
  h2 : hasV a.1 2 a.2.2.1 c.1 = true
  h3 : hasV a.1 3 a.2.2.2.1 c.1 = true
  h4 : hasV a.1 4 a.2.2.2.2.1 (gBd u a.1) = true
theorem act_1 (a0 : U) (a1 : C) (T X Y G N op nx el : Int) : g_ref8_act a0 a1 (1, T, X, Y, G, N, op, nx, el) =
  optC (G_ref1_Fits (N, ())) (none) fun d4 ↦
   bif !d4 then
   some false
 else optC (G_ref8_in (nx, (↑(List.length a1.2) : Int), ())) (none) fun d5 ↦
   bif !d5 then
   some false
 else optC (G_ref8_in (el, (↑(List.length a1.2) : Int), ())) (none) fun d6 ↦
   bif !d6 then
   some false
 else bif el != 0 then
   some false
 else bif op != 0 then
   some false
 else optC (G_ref8_has (1, 1, T, a1.1, ())) (none) fun d7 ↦
   bif d7 then
   optC (G_ref8_has (1, 2, X, 0, ())) (none) fun d8 ↦
   bif d8 then
   optC (G_ref8_has (1, 3, Y, 0, ())) (none) fun d9 ↦
   bif d9 then
   optC (G_ref8_has (1, 4, G, 0, ())) (none) fun d10 ↦
   some d10
 else some false
 else some false
 else some false := by kernel_rfl
theorem act_2 (a0 : U) (a1 : C) (T X Y G N op nx el : Int) : g_ref8_act a0 a1 (2, T, X, Y, G, N, op, nx, el) =
  bif N != 0 then
   some false
 else optC (G_ref1_Fits (N, ())) (none) fun d4 ↦
   bif !d4 then
   some false
 else optC (G_ref8_in (nx, (↑(List.length a1.2) : Int), ())) (none) fun d5 ↦
   bif !d5 then
   some false
 else optC (G_ref8_in (el, (↑(List.length a1.2) : Int), ())) (none) fun d6 ↦
   bif !d6 then
   some false
 else bif el != 0 then
   some false
 else bif op != 0 then
   some false
 else optC (G_ref8_has (2, 1, T, a1.1, ())) (none) fun d7 ↦
   bif d7 then
   optC (G_ref8_has (2, 2, X, a1.1, ())) (none) fun d8 ↦
   bif d8 then
   optC (G_ref8_has (2, 3, Y, 0, ())) (none) fun d9 ↦
   bif d9 then
   optC (G_ref8_has (2, 4, G, 0, ())) (none) fun d10 ↦
   some d10
 else some false
 else some false
 else some false := by kernel_rfl
theorem act_3 (a0 : U) (a1 : C) (T X Y G N op nx el : Int) : g_ref8_act a0 a1 (3, T, X, Y, G, N, op, nx, el) =
  bif N != 0 then
   some false
 else optC (G_ref1_Fits (N, ())) (none) fun d4 ↦
   bif !d4 then
   some false
 else optC (G_ref8_in (nx, (↑(List.length a1.2) : Int), ())) (none) fun d5 ↦
   bif !d5 then
   some false
 else optC (G_ref8_in (el, (↑(List.length a1.2) : Int), ())) (none) fun d6 ↦
   bif !d6 then
   some false
 else bif el != 0 then
   some false
 else bif op != 0 then
   some false
 else optC (G_ref8_has (3, 1, T, a1.1, ())) (none) fun d7 ↦
   bif d7 then
   optC (G_ref8_has (3, 2, X, 0, ())) (none) fun d8 ↦
   bif d8 then
   optC (G_ref8_has (3, 3, Y, 0, ())) (none) fun d9 ↦
   bif d9 then
   optC (G_ref8_has (3, 4, G, 0, ())) (none) fun d10 ↦
   some d10
 else some false
 else some false
 else some false := by kernel_rfl
theorem act_4 (a0 : U) (a1 : C) (T X Y G N op nx el : Int) : g_ref8_act a0 a1 (4, T, X, Y, G, N, op, nx, el) =
  bif N != 0 then
   some false
 else optC (G_ref1_Fits (N, ())) (none) fun d4 ↦
   bif !d4 then
   some false
 else optC (G_ref8_in (nx, (↑(List.length a1.2) : Int), ())) (none) fun d5 ↦
   bif !d5 then
   some false
 else optC (G_ref8_in (el, (↑(List.length a1.2) : Int), ())) (none) fun d6 ↦
   bif !d6 then
   some false
 else bif el != 0 then
   some false
 else bif decide (op < 1) then
   some false
 else bif decide (op ≥ 6) then
   some false
 else optC (G_ref8_has (4, 1, T, a1.1, ())) (none) fun d7 ↦
   bif d7 then
   optC (G_ref8_has (4, 2, X, a1.1, ())) (none) fun d8 ↦
   bif d8 then
   optC (G_ref8_has (4, 3, Y, a1.1, ())) (none) fun d9 ↦
   bif d9 then
   optC (G_ref8_has (4, 4, G, 0, ())) (none) fun d10 ↦
   some d10
 else some false
 else some false
 else some false := by kernel_rfl
theorem act_5 (a0 : U) (a1 : C) (T X Y G N op nx el : Int) : g_ref8_act a0 a1 (5, T, X, Y, G, N, op, nx, el) =
  bif N != 0 then
   some false
 else optC (G_ref1_Fits (N, ())) (none) fun d4 ↦
   bif !d4 then
   some false
 else optC (G_ref8_in (nx, (↑(List.length a1.2) : Int), ())) (none) fun d5 ↦
   bif !d5 then
   some false
 else optC (G_ref8_in (el, (↑(List.length a1.2) : Int), ())) (none) fun d6 ↦
   bif !d6 then
   some false
 else bif el != 0 then
   some false
 else bif op != 0 then
   some false
 else optC (G_ref8_has (5, 1, T, a1.1, ())) (none) fun d7 ↦
   bif d7 then
   optC (G_ref8_has (5, 2, X, 0, ())) (none) fun d8 ↦
   bif d8 then
   optC (G_ref8_has (5, 3, Y, 0, ())) (none) fun d9 ↦
   bif d9 then
   optC (G_ref8_has (5, 4, G, (↑(List.length a0.1) : Int), ())) (none) fun d10 ↦
   some d10
 else some false
 else some false
 else some false := by kernel_rfl
theorem act_6 (a0 : U) (a1 : C) (T X Y G N op nx el : Int) : g_ref8_act a0 a1 (6, T, X, Y, G, N, op, nx, el) =
  bif N != 0 then
   some false
 else optC (G_ref1_Fits (N, ())) (none) fun d4 ↦
   bif !d4 then
   some false
 else optC (G_ref8_in (nx, (↑(List.length a1.2) : Int), ())) (none) fun d5 ↦
   bif !d5 then
   some false
 else optC (G_ref8_in (el, (↑(List.length a1.2) : Int), ())) (none) fun d6 ↦
   bif !d6 then
   some false
 else bif el != 0 then
   some false
 else bif op != 0 then
   some false
 else optC (G_ref8_has (6, 1, T, 0, ())) (none) fun d7 ↦
   bif d7 then
   optC (G_ref8_has (6, 2, X, a1.1, ())) (none) fun d8 ↦
   bif d8 then
   optC (G_ref8_has (6, 3, Y, 0, ())) (none) fun d9 ↦
   bif d9 then
   optC (G_ref8_has (6, 4, G, (↑(List.length a0.1) : Int), ())) (none) fun d10 ↦
   some d10
 else some false
 else some false
 else some false := by kernel_rfl
theorem act_7 (a0 : U) (a1 : C) (T X Y G N op nx el : Int) : g_ref8_act a0 a1 (7, T, X, Y, G, N, op, nx, el) =
  bif N != 0 then
   some false
 else optC (G_ref1_Fits (N, ())) (none) fun d4 ↦
   bif !d4 then
   some false
 else optC (G_ref8_in (nx, (↑(List.length a1.2) : Int), ())) (none) fun d5 ↦
   bif !d5 then
   some false
 else optC (G_ref8_in (el, (↑(List.length a1.2) : Int), ())) (none) fun d6 ↦
   bif !d6 then
   some false
 else bif el != 0 then
   some false
 else bif op != 0 then
   some false
 else optC (G_ref8_has (7, 1, T, a1.1, ())) (none) fun d7 ↦
   bif d7 then
   optC (G_ref8_has (7, 2, X, a1.1, ())) (none) fun d8 ↦
   bif d8 then
   optC (G_ref8_has (7, 3, Y, 0, ())) (none) fun d9 ↦
   bif d9 then
   optC (G_ref8_has (7, 4, G, (↑(List.length a0.2.1) : Int), ())) (none) fun d10 ↦
   some d10
 else some false
 else some false
 else some false := by kernel_rfl
theorem act_8 (a0 : U) (a1 : C) (T X Y G N op nx el : Int) : g_ref8_act a0 a1 (8, T, X, Y, G, N, op, nx, el) =
  bif N != 0 then
   some false
 else optC (G_ref1_Fits (N, ())) (none) fun d4 ↦
   bif !d4 then
   some false
 else optC (G_ref8_in (nx, (↑(List.length a1.2) : Int), ())) (none) fun d5 ↦
   bif !d5 then
   some false
 else optC (G_ref8_in (el, (↑(List.length a1.2) : Int), ())) (none) fun d6 ↦
   bif !d6 then
   some false
 else bif el != 0 then
   some false
 else bif op != 0 then
   some false
 else optC (G_ref8_has (8, 1, T, 0, ())) (none) fun d7 ↦
   bif d7 then
   optC (G_ref8_has (8, 2, X, a1.1, ())) (none) fun d8 ↦
   bif d8 then
   optC (G_ref8_has (8, 3, Y, a1.1, ())) (none) fun d9 ↦
   bif d9 then
   optC (G_ref8_has (8, 4, G, (↑(List.length a0.2.1) : Int), ())) (none) fun d10 ↦
   some d10
 else some false
 else some false
 else some false := by kernel_rfl
theorem act_9 (a0 : U) (a1 : C) (T X Y G N op nx el : Int) : g_ref8_act a0 a1 (9, T, X, Y, G, N, op, nx, el) =
  bif N != 0 then
   some false
 else optC (G_ref1_Fits (N, ())) (none) fun d4 ↦
   bif !d4 then
   some false
 else optC (G_ref8_in (nx, (↑(List.length a1.2) : Int), ())) (none) fun d5 ↦
   bif !d5 then
   some false
 else optC (G_ref8_in (el, (↑(List.length a1.2) : Int), ())) (none) fun d6 ↦
   bif !d6 then
   some false
 else bif el != 0 then
   some false
 else bif op != 0 then
   some false
 else optC (G_ref8_has (9, 1, T, 0, ())) (none) fun d7 ↦
   bif d7 then
   optC (G_ref8_has (9, 2, X, 0, ())) (none) fun d8 ↦
   bif d8 then
   optC (G_ref8_has (9, 3, Y, 0, ())) (none) fun d9 ↦
   bif d9 then
   optC (G_ref8_has (9, 4, G, a0.2.2.1, ())) (none) fun d10 ↦
   some d10
 else some false
 else some false
 else some false := by kernel_rfl
theorem act_10 (a0 : U) (a1 : C) (T X Y G N op nx el : Int) : g_ref8_act a0 a1 (10, T, X, Y, G, N, op, nx, el) =
  bif N != 0 then
   some false
 else optC (G_ref1_Fits (N, ())) (none) fun d4 ↦
   bif !d4 then
   some false
 else optC (G_ref8_in (nx, (↑(List.length a1.2) : Int), ())) (none) fun d5 ↦
   bif !d5 then
   some false
 else optC (G_ref8_in (el, (↑(List.length a1.2) : Int), ())) (none) fun d6 ↦
   bif !d6 then
   some false
 else bif el != 0 then
   some false
 else bif op != 0 then
   some false
 else optC (G_ref8_has (10, 1, T, 0, ())) (none) fun d7 ↦
   bif d7 then
   optC (G_ref8_has (10, 2, X, 0, ())) (none) fun d8 ↦
   bif d8 then
   optC (G_ref8_has (10, 3, Y, 0, ())) (none) fun d9 ↦
   bif d9 then
   optC (G_ref8_has (10, 4, G, a0.2.2.1, ())) (none) fun d10 ↦
   some d10
 else some false
 else some false
 else some false := by kernel_rfl
theorem act_11 (a0 : U) (a1 : C) (T X Y G N op nx el : Int) : g_ref8_act a0 a1 (11, T, X, Y, G, N, op, nx, el) =
  bif N != 0 then
   some false
 else optC (G_ref1_Fits (N, ())) (none) fun d4 ↦
   bif !d4 then
   some false
 else optC (G_ref8_in (nx, (↑(List.length a1.2) : Int), ())) (none) fun d5 ↦
   bif !d5 then
   some false
 else optC (G_ref8_in (el, (↑(List.length a1.2) : Int), ())) (none) fun d6 ↦
   bif !d6 then
   some false
 else bif decide (op < 1) then
   some false
 else bif decide (op ≥ 7) then
   some false
 else optC (G_ref8_has (11, 1, T, 0, ())) (none) fun d7 ↦
   bif d7 then
   optC (G_ref8_has (11, 2, X, a1.1, ())) (none) fun d8 ↦
   bif d8 then
   optC (G_ref8_has (11, 3, Y, a1.1, ())) (none) fun d9 ↦
   bif d9 then
   optC (G_ref8_has (11, 4, G, 0, ())) (none) fun d10 ↦
   some d10
 else some false
 else some false
 else some false := by kernel_rfl
theorem act_12 (a0 : U) (a1 : C) (T X Y G N op nx el : Int) : g_ref8_act a0 a1 (12, T, X, Y, G, N, op, nx, el) =
  bif N != 0 then
   some false
 else optC (G_ref1_Fits (N, ())) (none) fun d4 ↦
   bif !d4 then
   some false
 else optC (G_ref8_in (nx, (↑(List.length a1.2) : Int), ())) (none) fun d5 ↦
   bif !d5 then
   some false
 else optC (G_ref8_in (el, (↑(List.length a1.2) : Int), ())) (none) fun d6 ↦
   bif !d6 then
   some false
 else bif el != 0 then
   some false
 else bif op != 0 then
   some false
 else optC (G_ref8_has (12, 1, T, 0, ())) (none) fun d7 ↦
   bif d7 then
   optC (G_ref8_has (12, 2, X, 0, ())) (none) fun d8 ↦
   bif d8 then
   optC (G_ref8_has (12, 3, Y, 0, ())) (none) fun d9 ↦
   bif d9 then
   optC (G_ref8_has (12, 4, G, 0, ())) (none) fun d10 ↦
   some d10
 else some false
 else some false
 else some false := by kernel_rfl
theorem act_13 (a0 : U) (a1 : C) (T X Y G N op nx el : Int) : g_ref8_act a0 a1 (13, T, X, Y, G, N, op, nx, el) =
  bif N != 0 then
   some false
 else optC (G_ref1_Fits (N, ())) (none) fun d4 ↦
   bif !d4 then
   some false
 else optC (G_ref8_in (nx, (↑(List.length a1.2) : Int), ())) (none) fun d5 ↦
   bif !d5 then
   some false
 else optC (G_ref8_in (el, (↑(List.length a1.2) : Int), ())) (none) fun d6 ↦
   bif !d6 then
   some false
 else bif el != 0 then
   some false
 else bif op != 0 then
   some false
 else optC (G_ref8_has (13, 1, T, 0, ())) (none) fun d7 ↦
   bif d7 then
   optC (G_ref8_has (13, 2, X, 0, ())) (none) fun d8 ↦
   bif d8 then
   optC (G_ref8_has (13, 3, Y, 0, ())) (none) fun d9 ↦
   bif d9 then
   optC (G_ref8_has (13, 4, G, 0, ())) (none) fun d10 ↦
   some d10
 else some false
 else some false
 else some false := by kernel_rfl
theorem act_14 (a0 : U) (a1 : C) (T X Y G N op nx el : Int) : g_ref8_act a0 a1 (14, T, X, Y, G, N, op, nx, el) =
  bif N != 0 then
   some false
 else optC (G_ref1_Fits (N, ())) (none) fun d4 ↦
   bif !d4 then
   some false
 else optC (G_ref8_in (nx, (↑(List.length a1.2) : Int), ())) (none) fun d5 ↦
   bif !d5 then
   some false
 else optC (G_ref8_in (el, (↑(List.length a1.2) : Int), ())) (none) fun d6 ↦
   bif !d6 then
   some false
 else bif el != 0 then
   some false
 else bif op != 0 then
   some false
 else optC (G_ref8_has (14, 1, T, 0, ())) (none) fun d7 ↦
   bif d7 then
   optC (G_ref8_has (14, 2, X, 0, ())) (none) fun d8 ↦
   bif d8 then
   optC (G_ref8_has (14, 3, Y, 0, ())) (none) fun d9 ↦
   bif d9 then
   optC (G_ref8_has (14, 4, G, 0, ())) (none) fun d10 ↦
   some d10
 else some false
 else some false
 else some false := by kernel_rfl
theorem act_ok_1 (u : U) (c : C) (T X Y G N op nx el : Int) : ∃ b, g_ref8_act u c (1, T, X, Y, G, N, op, nx, el) = some b ∧ (b = true → actOK u c (1, T, X, Y, G, N, op, nx, el)) := by
  rw [act_1]
  simp only [G_ref1_Fits, n_ref1_Fits, G_ref8_in, n_ref8_in, G_ref8_has, n_ref8_has _ _ _ _ (show (0 : Int) ≤ 1 ∧ (1 : Int) ≤ 14 by decide) (show (1 : Int) ≤ 1 ∧ (1 : Int) ≤ 4 by decide), n_ref8_has _ _ _ _ (show (0 : Int) ≤ 1 ∧ (1 : Int) ≤ 14 by decide) (show (1 : Int) ≤ 2 ∧ (2 : Int) ≤ 4 by decide), n_ref8_has _ _ _ _ (show (0 : Int) ≤ 1 ∧ (1 : Int) ≤ 14 by decide) (show (1 : Int) ≤ 3 ∧ (3 : Int) ≤ 4 by decide), n_ref8_has _ _ _ _ (show (0 : Int) ≤ 1 ∧ (1 : Int) ≤ 14 by decide) (show (1 : Int) ≤ 4 ∧ (4 : Int) ≤ 4 by decide), optC_some, cond_eq_ite]
  (repeat' split) <;> (refine ⟨_, rfl, fun hb => ?_⟩) <;> first | (cases hb; done) | skip
  all_goals (constructor <;> simp_all [inB, hasV, usesB, gBd] <;> omega)
theorem act_ok_2 (u : U) (c : C) (T X Y G N op nx el : Int) : ∃ b, g_ref8_act u c (2, T, X, Y, G, N, op, nx, el) = some b ∧ (b = true → actOK u c (2, T, X, Y, G, N, op, nx, el)) := by
  rw [act_2]
  simp only [G_ref1_Fits, n_ref1_Fits, G_ref8_in, n_ref8_in, G_ref8_has, n_ref8_has _ _ _ _ (show (0 : Int) ≤ 2 ∧ (2 : Int) ≤ 14 by decide) (show (1 : Int) ≤ 1 ∧ (1 : Int) ≤ 4 by decide), n_ref8_has _ _ _ _ (show (0 : Int) ≤ 2 ∧ (2 : Int) ≤ 14 by decide) (show (1 : Int) ≤ 2 ∧ (2 : Int) ≤ 4 by decide), n_ref8_has _ _ _ _ (show (0 : Int) ≤ 2 ∧ (2 : Int) ≤ 14 by decide) (show (1 : Int) ≤ 3 ∧ (3 : Int) ≤ 4 by decide), n_ref8_has _ _ _ _ (show (0 : Int) ≤ 2 ∧ (2 : Int) ≤ 14 by decide) (show (1 : Int) ≤ 4 ∧ (4 : Int) ≤ 4 by decide), optC_some, cond_eq_ite]
  (repeat' split) <;> (refine ⟨_, rfl, fun hb => ?_⟩) <;> first | (cases hb; done) | skip
  all_goals (constructor <;> simp_all [inB, hasV, usesB, gBd] <;> omega)
theorem act_ok_3 (u : U) (c : C) (T X Y G N op nx el : Int) : ∃ b, g_ref8_act u c (3, T, X, Y, G, N, op, nx, el) = some b ∧ (b = true → actOK u c (3, T, X, Y, G, N, op, nx, el)) := by
  rw [act_3]
  simp only [G_ref1_Fits, n_ref1_Fits, G_ref8_in, n_ref8_in, G_ref8_has, n_ref8_has _ _ _ _ (show (0 : Int) ≤ 3 ∧ (3 : Int) ≤ 14 by decide) (show (1 : Int) ≤ 1 ∧ (1 : Int) ≤ 4 by decide), n_ref8_has _ _ _ _ (show (0 : Int) ≤ 3 ∧ (3 : Int) ≤ 14 by decide) (show (1 : Int) ≤ 2 ∧ (2 : Int) ≤ 4 by decide), n_ref8_has _ _ _ _ (show (0 : Int) ≤ 3 ∧ (3 : Int) ≤ 14 by decide) (show (1 : Int) ≤ 3 ∧ (3 : Int) ≤ 4 by decide), n_ref8_has _ _ _ _ (show (0 : Int) ≤ 3 ∧ (3 : Int) ≤ 14 by decide) (show (1 : Int) ≤ 4 ∧ (4 : Int) ≤ 4 by decide), optC_some, cond_eq_ite]
  (repeat' split) <;> (refine ⟨_, rfl, fun hb => ?_⟩) <;> first | (cases hb; done) | skip
  all_goals (constructor <;> simp_all [inB, hasV, usesB, gBd] <;> omega)
theorem act_ok_4 (u : U) (c : C) (T X Y G N op nx el : Int) : ∃ b, g_ref8_act u c (4, T, X, Y, G, N, op, nx, el) = some b ∧ (b = true → actOK u c (4, T, X, Y, G, N, op, nx, el)) := by
  rw [act_4]
  simp only [G_ref1_Fits, n_ref1_Fits, G_ref8_in, n_ref8_in, G_ref8_has, n_ref8_has _ _ _ _ (show (0 : Int) ≤ 4 ∧ (4 : Int) ≤ 14 by decide) (show (1 : Int) ≤ 1 ∧ (1 : Int) ≤ 4 by decide), n_ref8_has _ _ _ _ (show (0 : Int) ≤ 4 ∧ (4 : Int) ≤ 14 by decide) (show (1 : Int) ≤ 2 ∧ (2 : Int) ≤ 4 by decide), n_ref8_has _ _ _ _ (show (0 : Int) ≤ 4 ∧ (4 : Int) ≤ 14 by decide) (show (1 : Int) ≤ 3 ∧ (3 : Int) ≤ 4 by decide), n_ref8_has _ _ _ _ (show (0 : Int) ≤ 4 ∧ (4 : Int) ≤ 14 by decide) (show (1 : Int) ≤ 4 ∧ (4 : Int) ≤ 4 by decide), optC_some, cond_eq_ite]
  (repeat' split) <;> (refine ⟨_, rfl, fun hb => ?_⟩) <;> first | (cases hb; done) | skip
  all_goals (constructor <;> simp_all [inB, hasV, usesB, gBd] <;> omega)
theorem act_ok_5 (u : U) (c : C) (T X Y G N op nx el : Int) : ∃ b, g_ref8_act u c (5, T, X, Y, G, N, op, nx, el) = some b ∧ (b = true → actOK u c (5, T, X, Y, G, N, op, nx, el)) := by
  rw [act_5]
  simp only [G_ref1_Fits, n_ref1_Fits, G_ref8_in, n_ref8_in, G_ref8_has, n_ref8_has _ _ _ _ (show (0 : Int) ≤ 5 ∧ (5 : Int) ≤ 14 by decide) (show (1 : Int) ≤ 1 ∧ (1 : Int) ≤ 4 by decide), n_ref8_has _ _ _ _ (show (0 : Int) ≤ 5 ∧ (5 : Int) ≤ 14 by decide) (show (1 : Int) ≤ 2 ∧ (2 : Int) ≤ 4 by decide), n_ref8_has _ _ _ _ (show (0 : Int) ≤ 5 ∧ (5 : Int) ≤ 14 by decide) (show (1 : Int) ≤ 3 ∧ (3 : Int) ≤ 4 by decide), n_ref8_has _ _ _ _ (show (0 : Int) ≤ 5 ∧ (5 : Int) ≤ 14 by decide) (show (1 : Int) ≤ 4 ∧ (4 : Int) ≤ 4 by decide), optC_some, cond_eq_ite]
  (repeat' split) <;> (refine ⟨_, rfl, fun hb => ?_⟩) <;> first | (cases hb; done) | skip
  all_goals (constructor <;> simp_all [inB, hasV, usesB, gBd] <;> omega)
theorem act_ok_6 (u : U) (c : C) (T X Y G N op nx el : Int) : ∃ b, g_ref8_act u c (6, T, X, Y, G, N, op, nx, el) = some b ∧ (b = true → actOK u c (6, T, X, Y, G, N, op, nx, el)) := by
  rw [act_6]
  simp only [G_ref1_Fits, n_ref1_Fits, G_ref8_in, n_ref8_in, G_ref8_has, n_ref8_has _ _ _ _ (show (0 : Int) ≤ 6 ∧ (6 : Int) ≤ 14 by decide) (show (1 : Int) ≤ 1 ∧ (1 : Int) ≤ 4 by decide), n_ref8_has _ _ _ _ (show (0 : Int) ≤ 6 ∧ (6 : Int) ≤ 14 by decide) (show (1 : Int) ≤ 2 ∧ (2 : Int) ≤ 4 by decide), n_ref8_has _ _ _ _ (show (0 : Int) ≤ 6 ∧ (6 : Int) ≤ 14 by decide) (show (1 : Int) ≤ 3 ∧ (3 : Int) ≤ 4 by decide), n_ref8_has _ _ _ _ (show (0 : Int) ≤ 6 ∧ (6 : Int) ≤ 14 by decide) (show (1 : Int) ≤ 4 ∧ (4 : Int) ≤ 4 by decide), optC_some, cond_eq_ite]
  (repeat' split) <;> (refine ⟨_, rfl, fun hb => ?_⟩) <;> first | (cases hb; done) | skip
  all_goals (constructor <;> simp_all [inB, hasV, usesB, gBd] <;> omega)
theorem act_ok_7 (u : U) (c : C) (T X Y G N op nx el : Int) : ∃ b, g_ref8_act u c (7, T, X, Y, G, N, op, nx, el) = some b ∧ (b = true → actOK u c (7, T, X, Y, G, N, op, nx, el)) := by
  rw [act_7]
  simp only [G_ref1_Fits, n_ref1_Fits, G_ref8_in, n_ref8_in, G_ref8_has, n_ref8_has _ _ _ _ (show (0 : Int) ≤ 7 ∧ (7 : Int) ≤ 14 by decide) (show (1 : Int) ≤ 1 ∧ (1 : Int) ≤ 4 by decide), n_ref8_has _ _ _ _ (show (0 : Int) ≤ 7 ∧ (7 : Int) ≤ 14 by decide) (show (1 : Int) ≤ 2 ∧ (2 : Int) ≤ 4 by decide), n_ref8_has _ _ _ _ (show (0 : Int) ≤ 7 ∧ (7 : Int) ≤ 14 by decide) (show (1 : Int) ≤ 3 ∧ (3 : Int) ≤ 4 by decide), n_ref8_has _ _ _ _ (show (0 : Int) ≤ 7 ∧ (7 : Int) ≤ 14 by decide) (show (1 : Int) ≤ 4 ∧ (4 : Int) ≤ 4 by decide), optC_some, cond_eq_ite]
  (repeat' split) <;> (refine ⟨_, rfl, fun hb => ?_⟩) <;> first | (cases hb; done) | skip
  all_goals (constructor <;> simp_all [inB, hasV, usesB, gBd] <;> omega)
theorem act_ok_8 (u : U) (c : C) (T X Y G N op nx el : Int) : ∃ b, g_ref8_act u c (8, T, X, Y, G, N, op, nx, el) = some b ∧ (b = true → actOK u c (8, T, X, Y, G, N, op, nx, el)) := by
  rw [act_8]
  simp only [G_ref1_Fits, n_ref1_Fits, G_ref8_in, n_ref8_in, G_ref8_has, n_ref8_has _ _ _ _ (show (0 : Int) ≤ 8 ∧ (8 : Int) ≤ 14 by decide) (show (1 : Int) ≤ 1 ∧ (1 : Int) ≤ 4 by decide), n_ref8_has _ _ _ _ (show (0 : Int) ≤ 8 ∧ (8 : Int) ≤ 14 by decide) (show (1 : Int) ≤ 2 ∧ (2 : Int) ≤ 4 by decide), n_ref8_has _ _ _ _ (show (0 : Int) ≤ 8 ∧ (8 : Int) ≤ 14 by decide) (show (1 : Int) ≤ 3 ∧ (3 : Int) ≤ 4 by decide), n_ref8_has _ _ _ _ (show (0 : Int) ≤ 8 ∧ (8 : Int) ≤ 14 by decide) (show (1 : Int) ≤ 4 ∧ (4 : Int) ≤ 4 by decide), optC_some, cond_eq_ite]
  (repeat' split) <;> (refine ⟨_, rfl, fun hb => ?_⟩) <;> first | (cases hb; done) | skip
  all_goals (constructor <;> simp_all [inB, hasV, usesB, gBd] <;> omega)
theorem act_ok_9 (u : U) (c : C) (T X Y G N op nx el : Int) : ∃ b, g_ref8_act u c (9, T, X, Y, G, N, op, nx, el) = some b ∧ (b = true → actOK u c (9, T, X, Y, G, N, op, nx, el)) := by
  rw [act_9]
  simp only [G_ref1_Fits, n_ref1_Fits, G_ref8_in, n_ref8_in, G_ref8_has, n_ref8_has _ _ _ _ (show (0 : Int) ≤ 9 ∧ (9 : Int) ≤ 14 by decide) (show (1 : Int) ≤ 1 ∧ (1 : Int) ≤ 4 by decide), n_ref8_has _ _ _ _ (show (0 : Int) ≤ 9 ∧ (9 : Int) ≤ 14 by decide) (show (1 : Int) ≤ 2 ∧ (2 : Int) ≤ 4 by decide), n_ref8_has _ _ _ _ (show (0 : Int) ≤ 9 ∧ (9 : Int) ≤ 14 by decide) (show (1 : Int) ≤ 3 ∧ (3 : Int) ≤ 4 by decide), n_ref8_has _ _ _ _ (show (0 : Int) ≤ 9 ∧ (9 : Int) ≤ 14 by decide) (show (1 : Int) ≤ 4 ∧ (4 : Int) ≤ 4 by decide), optC_some, cond_eq_ite]
  (repeat' split) <;> (refine ⟨_, rfl, fun hb => ?_⟩) <;> first | (cases hb; done) | skip
  all_goals (constructor <;> simp_all [inB, hasV, usesB, gBd] <;> omega)
theorem act_ok_10 (u : U) (c : C) (T X Y G N op nx el : Int) : ∃ b, g_ref8_act u c (10, T, X, Y, G, N, op, nx, el) = some b ∧ (b = true → actOK u c (10, T, X, Y, G, N, op, nx, el)) := by
  rw [act_10]
  simp only [G_ref1_Fits, n_ref1_Fits, G_ref8_in, n_ref8_in, G_ref8_has, n_ref8_has _ _ _ _ (show (0 : Int) ≤ 10 ∧ (10 : Int) ≤ 14 by decide) (show (1 : Int) ≤ 1 ∧ (1 : Int) ≤ 4 by decide), n_ref8_has _ _ _ _ (show (0 : Int) ≤ 10 ∧ (10 : Int) ≤ 14 by decide) (show (1 : Int) ≤ 2 ∧ (2 : Int) ≤ 4 by decide), n_ref8_has _ _ _ _ (show (0 : Int) ≤ 10 ∧ (10 : Int) ≤ 14 by decide) (show (1 : Int) ≤ 3 ∧ (3 : Int) ≤ 4 by decide), n_ref8_has _ _ _ _ (show (0 : Int) ≤ 10 ∧ (10 : Int) ≤ 14 by decide) (show (1 : Int) ≤ 4 ∧ (4 : Int) ≤ 4 by decide), optC_some, cond_eq_ite]
  (repeat' split) <;> (refine ⟨_, rfl, fun hb => ?_⟩) <;> first | (cases hb; done) | skip
  all_goals (constructor <;> simp_all [inB, hasV, usesB, gBd] <;> omega)
theorem act_ok_11 (u : U) (c : C) (T X Y G N op nx el : Int) : ∃ b, g_ref8_act u c (11, T, X, Y, G, N, op, nx, el) = some b ∧ (b = true → actOK u c (11, T, X, Y, G, N, op, nx, el)) := by
  rw [act_11]
  simp only [G_ref1_Fits, n_ref1_Fits, G_ref8_in, n_ref8_in, G_ref8_has, n_ref8_has _ _ _ _ (show (0 : Int) ≤ 11 ∧ (11 : Int) ≤ 14 by decide) (show (1 : Int) ≤ 1 ∧ (1 : Int) ≤ 4 by decide), n_ref8_has _ _ _ _ (show (0 : Int) ≤ 11 ∧ (11 : Int) ≤ 14 by decide) (show (1 : Int) ≤ 2 ∧ (2 : Int) ≤ 4 by decide), n_ref8_has _ _ _ _ (show (0 : Int) ≤ 11 ∧ (11 : Int) ≤ 14 by decide) (show (1 : Int) ≤ 3 ∧ (3 : Int) ≤ 4 by decide), n_ref8_has _ _ _ _ (show (0 : Int) ≤ 11 ∧ (11 : Int) ≤ 14 by decide) (show (1 : Int) ≤ 4 ∧ (4 : Int) ≤ 4 by decide), optC_some, cond_eq_ite]
  (repeat' split) <;> (refine ⟨_, rfl, fun hb => ?_⟩) <;> first | (cases hb; done) | skip
  all_goals (constructor <;> simp_all [inB, hasV, usesB, gBd] <;> omega)
theorem act_ok_12 (u : U) (c : C) (T X Y G N op nx el : Int) : ∃ b, g_ref8_act u c (12, T, X, Y, G, N, op, nx, el) = some b ∧ (b = true → actOK u c (12, T, X, Y, G, N, op, nx, el)) := by
  rw [act_12]
  simp only [G_ref1_Fits, n_ref1_Fits, G_ref8_in, n_ref8_in, G_ref8_has, n_ref8_has _ _ _ _ (show (0 : Int) ≤ 12 ∧ (12 : Int) ≤ 14 by decide) (show (1 : Int) ≤ 1 ∧ (1 : Int) ≤ 4 by decide), n_ref8_has _ _ _ _ (show (0 : Int) ≤ 12 ∧ (12 : Int) ≤ 14 by decide) (show (1 : Int) ≤ 2 ∧ (2 : Int) ≤ 4 by decide), n_ref8_has _ _ _ _ (show (0 : Int) ≤ 12 ∧ (12 : Int) ≤ 14 by decide) (show (1 : Int) ≤ 3 ∧ (3 : Int) ≤ 4 by decide), n_ref8_has _ _ _ _ (show (0 : Int) ≤ 12 ∧ (12 : Int) ≤ 14 by decide) (show (1 : Int) ≤ 4 ∧ (4 : Int) ≤ 4 by decide), optC_some, cond_eq_ite]
  (repeat' split) <;> (refine ⟨_, rfl, fun hb => ?_⟩) <;> first | (cases hb; done) | skip
  all_goals (constructor <;> simp_all [inB, hasV, usesB, gBd] <;> omega)
theorem act_ok_13 (u : U) (c : C) (T X Y G N op nx el : Int) : ∃ b, g_ref8_act u c (13, T, X, Y, G, N, op, nx, el) = some b ∧ (b = true → actOK u c (13, T, X, Y, G, N, op, nx, el)) := by
  rw [act_13]
  simp only [G_ref1_Fits, n_ref1_Fits, G_ref8_in, n_ref8_in, G_ref8_has, n_ref8_has _ _ _ _ (show (0 : Int) ≤ 13 ∧ (13 : Int) ≤ 14 by decide) (show (1 : Int) ≤ 1 ∧ (1 : Int) ≤ 4 by decide), n_ref8_has _ _ _ _ (show (0 : Int) ≤ 13 ∧ (13 : Int) ≤ 14 by decide) (show (1 : Int) ≤ 2 ∧ (2 : Int) ≤ 4 by decide), n_ref8_has _ _ _ _ (show (0 : Int) ≤ 13 ∧ (13 : Int) ≤ 14 by decide) (show (1 : Int) ≤ 3 ∧ (3 : Int) ≤ 4 by decide), n_ref8_has _ _ _ _ (show (0 : Int) ≤ 13 ∧ (13 : Int) ≤ 14 by decide) (show (1 : Int) ≤ 4 ∧ (4 : Int) ≤ 4 by decide), optC_some, cond_eq_ite]
  (repeat' split) <;> (refine ⟨_, rfl, fun hb => ?_⟩) <;> first | (cases hb; done) | skip
  all_goals (constructor <;> simp_all [inB, hasV, usesB, gBd] <;> omega)
theorem act_ok_14 (u : U) (c : C) (T X Y G N op nx el : Int) : ∃ b, g_ref8_act u c (14, T, X, Y, G, N, op, nx, el) = some b ∧ (b = true → actOK u c (14, T, X, Y, G, N, op, nx, el)) := by
  rw [act_14]
  simp only [G_ref1_Fits, n_ref1_Fits, G_ref8_in, n_ref8_in, G_ref8_has, n_ref8_has _ _ _ _ (show (0 : Int) ≤ 14 ∧ (14 : Int) ≤ 14 by decide) (show (1 : Int) ≤ 1 ∧ (1 : Int) ≤ 4 by decide), n_ref8_has _ _ _ _ (show (0 : Int) ≤ 14 ∧ (14 : Int) ≤ 14 by decide) (show (1 : Int) ≤ 2 ∧ (2 : Int) ≤ 4 by decide), n_ref8_has _ _ _ _ (show (0 : Int) ≤ 14 ∧ (14 : Int) ≤ 14 by decide) (show (1 : Int) ≤ 3 ∧ (3 : Int) ≤ 4 by decide), n_ref8_has _ _ _ _ (show (0 : Int) ≤ 14 ∧ (14 : Int) ≤ 14 by decide) (show (1 : Int) ≤ 4 ∧ (4 : Int) ≤ 4 by decide), optC_some, cond_eq_ite]
  (repeat' split) <;> (refine ⟨_, rfl, fun hb => ?_⟩) <;> first | (cases hb; done) | skip
  all_goals (constructor <;> simp_all [inB, hasV, usesB, gBd] <;> omega)
theorem act_no (u : U) (c : C) (a : A) (h : ¬ (1 ≤ a.1 ∧ a.1 ≤ 14)) : g_ref8_act u c a = some false := by
  unfold g_ref8_act
  have f : ∀ k : Int, 1 ≤ k → k ≤ 14 → (a.1 == k) = false := fun k h1 h2 => by
    rw [beq_eq_false_iff_ne]; omega
  simp only [f 1 (by decide) (by decide), f 2 (by decide) (by decide), f 3 (by decide) (by decide), f 4 (by decide) (by decide), f 5 (by decide) (by decide), f 6 (by decide) (by decide), f 7 (by decide) (by decide), f 8 (by decide) (by decide), f 9 (by decide) (by decide), f 10 (by decide) (by decide), f 11 (by decide) (by decide), f 12 (by decide) (by decide), f 13 (by decide) (by decide), f 14 (by decide) (by decide), cond_false]
theorem n_ref8_act (u : U) (c : C) (a : A) : ∃ b, g_ref8_act u c a = some b ∧ (b = true → actOK u c a) := by
  by_cases h : 1 ≤ a.1 ∧ a.1 ≤ 14
  · obtain ⟨k, T, X, Y, G, N, op, nx, el⟩ := a
    have h1 : k = 1 ∨ k = 2 ∨ k = 3 ∨ k = 4 ∨ k = 5 ∨ k = 6 ∨ k = 7 ∨ k = 8 ∨ k = 9 ∨ k = 10 ∨ k = 11 ∨ k = 12 ∨ k = 13 ∨ k = 14 := by simp only at h; omega
    rcases h1 with rfl | rfl | rfl | rfl | rfl | rfl | rfl | rfl | rfl | rfl | rfl | rfl | rfl | rfl
    · exact act_ok_1 ..
    · exact act_ok_2 ..
    · exact act_ok_3 ..
    · exact act_ok_4 ..
    · exact act_ok_5 ..
    · exact act_ok_6 ..
    · exact act_ok_7 ..
    · exact act_ok_8 ..
    · exact act_ok_9 ..
    · exact act_ok_10 ..
    · exact act_ok_11 ..
    · exact act_ok_12 ..
    · exact act_ok_13 ..
    · exact act_ok_14 ..
  · exact ⟨false, act_no u c a h, fun k => nomatch k⟩
end Go.Proofs.Ytbdcblpjemmipaa.Ex

namespace Go.Proofs.Ytbdcblpjemmipaa.Ex
set_option maxRecDepth 100000
set_option linter.unusedVariables false
set_option linter.unusedSimpArgs false
theorem rangeO_ask {α Y : Type} {f : Nat → Unit → α → Option (Unit ⊕ Y)} {fin : Unit → Option Y} {p : Nat → α → Bool} {o : Y} : ∀ (l : List α) (i : Nat), (∀ j d, l[j]? = some d → f (i + j) () d = bif p (i + j) d then some (.inl ()) else some (.inr o)) →
    rangeO f fin i l () = bif allIx p i l then fin () else some o
  | [], i, _ => rfl
  | d :: r, i, h => by
    have k := rangeO_ask (fin := fin) r (i + 1) fun j d hd => by
      have := h (j + 1) d hd
      rwa [show i + (j + 1) = i + 1 + j by omega] at this
    have h0 := h 0 d rfl
    rw [Nat.add_zero] at h0
    simp only [rangeO, allIx, h0]
    cases p i d
    · rfl
    · exact k
theorem allIx_iff {α : Type} {p : Nat → α → Bool} : ∀ {l : List α} {i : Nat}, allIx p i l = true ↔ ∀ j d, l[j]? = some d → p (i + j) d = true
  | [], i => by simp [allIx]
  | d :: r, i => by
    rw [allIx, Bool.and_eq_true, allIx_iff]
    constructor
    · rintro ⟨h, k⟩ j e hj
      cases j with
      | zero => cases hj; exact h
      | succ j => have := k j e hj; rwa [show i + 1 + j = i + (j + 1) by omega] at this
    · intro k
      refine ⟨by have := k 0 d rfl; rwa [Nat.add_zero] at this, fun j e hj => ?_⟩
      have := k (j + 1) e hj
      rwa [show i + (j + 1) = i + 1 + j by omega] at this
noncomputable def actB (u : U) (c : C) (a : A) : Bool := (g_ref8_act u c a).getD false
theorem actB_eq (u : U) (c : C) (a : A) : g_ref8_act u c a = some (actB u c a) := by
  obtain ⟨b, h, _⟩ := n_ref8_act u c a
  unfold actB
  rw [h]; rfl
noncomputable def codeB (u : U) (c : C) : Bool := inB c.1 41 && !decide ((c.2.length : Int) < 1) && !decide ((c.2.length : Int) > 60) && (c.2[c.2.length - 1]?).elim false (fun a => a.1 == 14) && allIx (fun _ a => actB u c a) 0 c.2
theorem l6 (s5 : Int) (u : U) (c : C) (hl : c.2.length < 9223372036854775807) : L_ref8_Is_82_6_0 (s5, (c.2.length : Int), 0, u.1, u.2.1, u.2.2.1, u.2.2.2, c.1, c.2) =
    bif allIx (fun _ a => actB u c a) 0 c.2 then some (.inl (s5, u.1, u.2.1, u.2.2.1, u.2.2.2)) else some (.inr (false, s5, u.1, u.2.1, u.2.2.1, u.2.2.2)) := by
  rw [rg_ref8_Is_82_6_0 s5 u.1 u.2.1 u.2.2.1 u.2.2.2 c.1 c.2 () hl]
  unfold rv_ref8_Is_82_6_0
  rw [rangeO_ask (p := fun _ a => actB u c a) (o := .inr (false, s5, u.1, u.2.1, u.2.2.1, u.2.2.2)) c.2 0 fun j d hd => ?_]
  · rfl
  · unfold bd_ref8_Is_82_6_0 G_ref8_act
    simp only [actB_eq, optC_some]
    cases actB u c d <;> rfl
theorem l4 (u : U) (hl : ∀ c ∈ u.2.2.2, c.2.length < 9223372036854775807) (hn : u.2.2.2.length < 9223372036854775807) : L_ref8_Is_82_4_0 (0, u.1, u.2.1, u.2.2.1, u.2.2.2) = bif allIx (fun _ c => codeB u c) 0 u.2.2.2 then some (.inl ()) else some (.inr false) := by
  unfold L_ref8_Is_82_4_0
  refine (iterO_range0 u.2.2.2 (fun i (_ : Unit) => (((i : Int), u.1, u.2.1, u.2.2.1, u.2.2.2) : Int × List Int × List Int × Int × List C)) (fun i _ c => bif codeB u c then some (.inl ()) else some (.inr (.inr false))) (fun _ => some (.inl ())) ?_ ?_ () (by unfold FUEL; omega)).trans ?_
  · intro i s d hi hd
    have hm := hl d (List.mem_of_getElem? hd)
    have e1 : decide ((i : Int) < (u.2.2.2.length : Int)) = true := decide_eq_true (by omega)
    have e2 : decide (0 ≤ (i : Int)) = true := decide_eq_true (by omega)
    have e3 : Int.toNat (i : Int) = i := Int.toNat_natCast i
    have e4 := wrap_next hi (Nat.le_of_lt hn)
    show st_ref8_Is_82_4_0 (i : Int) u.1 u.2.1 u.2.2.1 u.2.2.2 = upd _ (bif codeB u d then some (.inl ()) else some (.inr (.inr false)))
    unfold st_ref8_Is_82_4_0 G_ref8_in
    simp only [e1, e2, e3, hd, cond_true, optC_some, n_ref8_in]
    have q := l6 (i : Int) u d hm
    unfold codeB
    cases inB d.1 41
    · rfl
    by_cases h1 : (d.2.length : Int) < 1
    · rw [decide_eq_true h1]; rfl
    by_cases h2 : (d.2.length : Int) > 60
    · rw [decide_eq_false h1, decide_eq_true h2]; rfl
    rw [decide_eq_false h1, decide_eq_false h2]
    have e5 : IntKind.i64.wrap ((d.2.length : Int) - 1) = ((d.2.length - 1 : Nat) : Int) := by rw [wrap_fits (by omega) (by omega)]; omega
    rw [e5]
    have e6 : decide (0 ≤ ((d.2.length - 1 : Nat) : Int)) = true := decide_eq_true (by omega)
    rw [e6, Int.toNat_natCast]
    obtain ⟨a, ha⟩ : ∃ a, d.2[d.2.length - 1]? = some a := ⟨d.2[d.2.length - 1]'(by omega), List.getElem?_eq_getElem _⟩
    simp only [cond_true, cond_false, Bool.not_true, Bool.not_false, Bool.true_and, ha, optC_some, Option.elim_some]
    cases h3 : a.1 == 14
    · rw [show (a.1 != 14) = true by simp [bne, h3]]; rfl
    · rw [show (a.1 != 14) = false by simp [bne, h3]]
      simp only [cond_false, Bool.true_and]
      have q2 : L_ref8_Is_82_6_0 ((i : Int), (d.2.length : Int), 0, u.1, u.2.1, u.2.2.1, u.2.2.2, d) = _ := q
      rw [q2]
      cases allIx (fun _ a => actB u d a) 0 d.2
      · rfl
      · simp only [cond_true, optC_some, Sum.elim_inl, e4]; rfl
  · intro s
    show st_ref8_Is_82_4_0 (u.2.2.2.length : Int) u.1 u.2.1 u.2.2.1 u.2.2.2 = _
    unfold st_ref8_Is_82_4_0
    rw [show decide ((u.2.2.2.length : Int) < (u.2.2.2.length : Int)) = false from decide_eq_false (by omega)]
    rfl
  · rw [rangeO_ask (p := fun _ c => codeB u c) (o := .inr false) u.2.2.2 0 fun j d hd => rfl]
theorem l0 (u : U) (hn : u.1.length < 9223372036854775807) : L_ref8_Is_82_0_0 (0, u) = bif u.1.all fitB then some (.inl u) else some (.inr (false, u)) := by
  have := rg_ref8_Is_82_0_0 u.2.1 u.2.2.1 u.2.2.2 u.1 () hn
  refine this.trans ?_
  unfold rv_ref8_Is_82_0_0
  rw [rangeO_ask (p := fun _ a => fitB a) (o := .inr (false, u.1, u.2.1, u.2.2.1, u.2.2.2)) u.1 0 fun j d hd => ?_, allIx_all]
  · rfl
  · unfold bd_ref8_Is_82_0_0 G_ref1_Fits
    simp only [n_ref1_Fits, optC_some]
    cases fitB d <;> rfl
theorem l2 (u : U) (hn : u.2.1.length < 9223372036854775807) : L_ref8_Is_82_2_0 (0, u) = bif u.2.1.all (fun n => !decide (n < 1) && !decide (n > 16)) then some (.inl u) else some (.inr (false, u)) := by
  have := rg_ref8_Is_82_2_0 u.1 u.2.2.1 u.2.2.2 u.2.1 () hn
  refine this.trans ?_
  unfold rv_ref8_Is_82_2_0
  rw [rangeO_ask (p := fun _ n => !decide (n < 1) && !decide (n > 16)) (o := .inr (false, u.1, u.2.1, u.2.2.1, u.2.2.2)) u.2.1 0 fun j d hd => ?_, allIx_all]
  · rfl
  · unfold bd_ref8_Is_82_2_0
    cases decide (d < 1)
    · cases decide (d > 16) <;> rfl
    · rfl
structure codeOK (u : U) (c : C) : Prop where
  v : 0 ≤ c.1 ∧ c.1 ≤ 40
  n : 1 ≤ c.2.length ∧ c.2.length ≤ 60
  e : ∃ a, c.2[c.2.length - 1]? = some a ∧ a.1 = 14
  a : ∀ a ∈ c.2, actOK u c a
structure unitOK (u : U) : Prop where
  g : u.1.length ≤ 6
  a : u.2.1.length ≤ 3
  m : 0 ≤ u.2.2.1 ∧ u.2.2.1 ≤ 6
  t : 1 ≤ u.2.2.2.length ∧ u.2.2.2.length ≤ 4
  gs : ∀ n ∈ u.1, fitB n = true
  ars : ∀ n ∈ u.2.1, 1 ≤ n ∧ n ≤ 16
  ts : ∀ c ∈ u.2.2.2, codeOK u c
end Go.Proofs.Ytbdcblpjemmipaa.Ex

namespace Go.Proofs.Ytbdcblpjemmipaa.Ex
open Go.Proofs Go.Proofs.Ytbdcblpjemmipaa
set_option maxRecDepth 100000
set_option maxHeartbeats 2000000
set_option linter.unusedVariables false
set_option linter.unusedSimpArgs false
end Go.Proofs.Ytbdcblpjemmipaa.Ex

namespace Go.Proofs.Ytbdcblpjemmipaa.Ex
set_option maxRecDepth 100000
set_option maxHeartbeats 2000000
set_option linter.unusedVariables false
set_option linter.unusedSimpArgs false
end Go.Proofs.Ytbdcblpjemmipaa.Ex

namespace Go.Proofs.Ytbdcblpjemmipaa.Ex
open Go.Proofs Go.Proofs.Ytbdcblpjemmipaa
set_option maxRecDepth 100000
set_option maxHeartbeats 2000000
set_option linter.unusedVariables false
set_option linter.unusedSimpArgs false
def ash_ref12_arr : List Sh := [.dat tEn]
noncomputable def sp_ref12_arr : Nat → Option (List AV → Prog AV)
  | _ => none
theorem hsp_ref12_arr : ∀ g p, sp_ref12_arr g = some p → SoundA Try.prog g p := by
  intro g p h
  unfold sp_ref12_arr at h
  split at h
  · cases h
noncomputable def cx_ref12_arr : Ctx := { tab := tab, spec := sp_ref12_arr, inl := inl, lps := fun _ _ => none, fuel := 40 }
theorem in_ref12_arr : InlOk Try.prog cx_ref12_arr := ⟨inl_ok, fun _ _ _ _ _ _ _ _ h => nomatch h⟩
theorem cal_ref12_arr (g : Nat) : SoundA Try.prog g (evF cx_ref12_arr keeps 8 g) := evF_sound (tabOk_of tab_ok) (cmpsOk_of tab_ok cmps_ok) mixed in_ref12_arr hsp_ref12_arr keeps 8 g
noncomputable def g_ref12_arr (a0 : En) : Option Int :=
  bif a0.2.1 then some 1 else some 0
theorem raw_ref12_arr (a0 : En) : evGX cx_ref12_arr keeps 8 94 ash_ref12_arr (.dat (.int .i64)) ((a0, ()) : (En × Unit)) = g_ref12_arr a0 := by kernel_rfl
noncomputable def G_ref12_arr (x : (En × Unit)) : Option Int := g_ref12_arr x.1
noncomputable def con_ref12_arr : List AV → Prog AV := conP true ash_ref12_arr (.dat (.int .i64)) G_ref12_arr
theorem snd_ref12_arr : SoundA Try.prog 94 con_ref12_arr := conP_sound (cal_ref12_arr 94) true (by rfl) (by rfl) (fun x r e => (evGX_eq _ _ _ _ _ _ _).trans ((raw_ref12_arr x.1).trans e)) (.inl rfl)
end Go.Proofs.Ytbdcblpjemmipaa.Ex

namespace Go.Proofs.Ytbdcblpjemmipaa.Ex
open Go.Proofs Go.Proofs.Ytbdcblpjemmipaa
set_option maxRecDepth 100000
set_option maxHeartbeats 2000000
set_option linter.unusedVariables false
set_option linter.unusedSimpArgs false
abbrev ty_81_0 : Type := ((Unit × (Unit × (Int × Unit))) × ((List Int) × ((List Int) × Unit)))
abbrev fn_81_0 := (fun (d : ty_81_0) => ((d.1.2.2.1, d.2.1, d.2.2.1) : (Int × (List Int) × (List Int))))
def ash_ref12_order : List Sh := [.dat tEn, .dat tEn]
def kp_ref12_order_56_0 : Nat → List Nat := fun c => bif c.beq 0 then [5, 6, 7] else [4]
noncomputable def sp_ref12_order : Nat → Option (List AV → Prog AV)
  | 94 => some (con_ref12_arr)
  | _ => none
theorem hsp_ref12_order : ∀ g p, sp_ref12_order g = some p → SoundA Try.prog g p := by
  intro g p h
  unfold sp_ref12_order at h
  split at h
  · cases h; exact snd_ref12_arr
  · cases h
noncomputable def cx_ref12_order0 : Ctx := { tab := tab, spec := sp_ref12_order, inl := inl, lps := fun _ _ => none, fuel := 40 }
theorem in_ref12_order0 : InlOk Try.prog cx_ref12_order0 := ⟨inl_ok, fun _ _ _ _ _ _ _ _ h => nomatch h⟩
theorem cal_ref12_order0 (g : Nat) : SoundA Try.prog g (evF cx_ref12_order0 keeps 8 g) := evF_sound (tabOk_of tab_ok) (cmpsOk_of tab_ok cmps_ok) mixed in_ref12_order0 hsp_ref12_order keeps 8 g
noncomputable def F_ref12_order_56_0 (base : Nat) : Tm → Prog (Nat × Tm) := evC cx_ref12_order0 (evF cx_ref12_order0 keeps 8) ⟨56, 48, keeps 56, base⟩ 0 (bodyX 56 0)
def s_ref12_order_56_0_0 : StS := ⟨[(5, .row 0), (6, .row 1), (7, .int .i64)], [(0, .row (.int .i64)), (1, .row (.int .i64))], 2⟩
def x_ref12_order_56_0_0_0 : StS := ⟨[(4, .undef)], [], 0⟩
def x_ref12_order_56_0_0_1 : StS := ⟨[(4, .int .i64)], [], 0⟩
noncomputable def st_ref12_order_56_0_0 (s7 : Int) (b0 : (List Int)) (b1 : (List Int)) : Option ((Int × (List Int) × (List Int)) ⊕ (Unit ⊕ Int)) :=
  bif decide (s7 < 4) then
 bif decide (0 ≤ s7) then
 optC b0[s7.toNat]? none fun d5 ↦
 optC b0[s7.toNat]? none fun d6 ↦
 bif decide (0 ≤ s7) then
 optC b1[s7.toNat]? none fun d7 ↦
 optC b1[s7.toNat]? none fun d8 ↦
 bif decide (d6 < d8) then some (Sum.inr (Sum.inr (-1)))
 else
 bif decide (0 ≤ s7) then
 optC b0[s7.toNat]? none fun d9 ↦
 optC b0[s7.toNat]? none fun d10 ↦
 bif decide (0 ≤ s7) then
 optC b1[s7.toNat]? none fun d11 ↦
 optC b1[s7.toNat]? none fun d12 ↦
 bif decide (d10 > d12) then some (Sum.inr (Sum.inr 1)) else some (Sum.inl (Go.IntKind.i64.wrap (s7 + 1), b0, b1))
 else none
 else none
 else none
 else none
 else some (Sum.inr (Sum.inl PUnit.unit))
theorem rn_ref12_order_56_0_0 (s7 : Int) (b0 : (List Int)) (b1 : (List Int)) : rdX cx_ref12_order0 keeps 8 ⟨56, 48, keeps 56, 0⟩ 0 (bodyX 56 0) 0 kp_ref12_order_56_0 (sT s_ref12_order_56_0_0 (((), (), s7, ()), (b0, b1, ()))) (sH s_ref12_order_56_0_0 (((), (), s7, ()), (b0, b1, ()))) (rdO (fun T h => (rdS s_ref12_order_56_0_0 T h).map fn_81_0) (getOr (getE 2 x_ref12_order_56_0_0_0 (fun (d : ((Unit × Unit) × Unit)) => (() : Unit))) (getE 1 x_ref12_order_56_0_0_1 (fun (d : ((Int × Unit) × Unit)) => ((d.1.1) : Int))))) = st_ref12_order_56_0_0 s7 b0 b1 := by kernel_rfl
noncomputable def L_ref12_order_56_0_0 (x : (Int × (List Int) × (List Int))) : Option (Unit ⊕ Int) := iterO (fun x => st_ref12_order_56_0_0 x.1 x.2.1 x.2.2) FUEL x
noncomputable def q_ref12_order_56_0 : Nat → Tm → Prog (Nat × Tm) := (varP 0 (fun T h => (rdS s_ref12_order_56_0_0 T h).map fn_81_0) L_ref12_order_56_0_0 (fun y => .alt y (altE 2 x_ref12_order_56_0_0_0 (fun (x : Unit) => ((((), ()), ()) : ((Unit × Unit) × Unit)))) (altE 1 x_ref12_order_56_0_0_1 (fun (x : Int) => (((x, ()), ()) : ((Int × Unit) × Unit))))) (fun _ _ => .fail))
theorem ok_ref12_order_56_0 : VarOk kp_ref12_order_56_0 F_ref12_order_56_0 q_ref12_order_56_0 := (varX_ok (s := s_ref12_order_56_0_0) (un := (fun (x : (Int × (List Int) × (List Int))) => ((((), (), x.1, ()), (x.2.1, x.2.2, ())) : ty_81_0))) (by rfl) (fun _ => rfl) (getOr_ok (getE_ok (s := x_ref12_order_56_0_0_0) (un := (fun (x : Unit) => ((((), ()), ()) : ((Unit × Unit) × Unit)))) (by rfl) (fun _ => rfl)) (getE_ok (s := x_ref12_order_56_0_0_1) (un := (fun (x : Int) => (((x, ()), ()) : ((Int × Unit) × Unit)))) (by rfl) (fun _ => rfl))) (step := fun x => st_ref12_order_56_0_0 x.1 x.2.1 x.2.2) (fun x => rn_ref12_order_56_0_0 x.1 x.2.1 x.2.2) (fun _ _ e => ⟨_, e⟩) (altOr_ok (altE_ok 2 x_ref12_order_56_0_0_0 (fun (x : Unit) => ((((), ()), ()) : ((Unit × Unit) × Unit)))) (altE_ok 1 x_ref12_order_56_0_0_1 (fun (x : Int) => (((x, ()), ()) : ((Int × Unit) × Unit))))) (VarOk.fail _ _))
noncomputable def lpI_ref12_order_56_0 (base : Nat) (T : Tm) : Prog (Nat × Tm) := .norm base (kp_ref12_order_56_0 0) T (q_ref12_order_56_0 base)
theorem sndI_ref12_order_56_0 : SoundC Try.prog 48 (.loop (bodyX 56 0)) lpI_ref12_order_56_0 := loopK_sound (cx := cx_ref12_order0) (cal := evF cx_ref12_order0 keeps 8) (kp := keeps 56) (tabOk_of tab_ok) (cmpsOk_of tab_ok cmps_ok) cal_ref12_order0 mixed (hl_of (g := 56) (b := 0) in_ref12_order0 (by kernel_rfl) (by kernel_rfl)) ok_ref12_order_56_0
noncomputable def lpL_ref12_order_56_0 : Nat → Tm → Prog (Nat × Tm) := lpI_ref12_order_56_0
theorem sndL_ref12_order_56_0 : SoundC Try.prog 48 (.loop (bodyX 56 0)) lpL_ref12_order_56_0 := sndI_ref12_order_56_0
noncomputable def lp_ref12_order : Nat → Nat → Option (Nat → Tm → Prog (Nat × Tm))
  | 56, 0 => some lpL_ref12_order_56_0
  | _, _ => none
noncomputable def cx_ref12_order : Ctx := { tab := tab, spec := sp_ref12_order, inl := inl, lps := lp_ref12_order, fuel := 40 }
theorem in_ref12_order : InlOk Try.prog cx_ref12_order := ⟨inl_ok, fun g fn c hg hb q hq p hp => by
  change lp_ref12_order g q.1 = some p at hp
  change inl g = some fn at hg
  generalize hq1 : q.1 = b at hp
  unfold lp_ref12_order at hp
  split at hp
  · cases hp; exact lps_case (inl := inl) hg hb hq hq1 (by kernel_rfl) (by kernel_rfl) sndL_ref12_order_56_0
  · cases hp⟩
theorem cal_ref12_order (g : Nat) : SoundA Try.prog g (evF cx_ref12_order keeps 8 g) := evF_sound (tabOk_of tab_ok) (cmpsOk_of tab_ok cmps_ok) mixed in_ref12_order hsp_ref12_order keeps 8 g
noncomputable def g_ref12_order (a0 : En) (a1 : En) : Option Int :=
  optC (G_ref12_arr (a0, ())) none fun d4 ↦
 optC (G_ref12_arr (a1, ())) none fun d5 ↦
 optC (L_ref12_order_56_0_0 (0, [a0.1, d4, a0.2.2.1, a0.2.2.2.1], [a1.1, d5, a1.2.2.1, a1.2.2.2.1])) none fun d6 ↦
 Sum.elim (fun e7 ↦ some 0) (fun e7 ↦ some e7) d6
theorem raw_ref12_order (a0 : En) (a1 : En) : evGX cx_ref12_order keeps 8 56 ash_ref12_order (.dat (.int .i64)) ((a0, a1, ()) : (En × (En × Unit))) = g_ref12_order a0 a1 := by kernel_rfl
noncomputable def G_ref12_order (x : (En × (En × Unit))) : Option Int := g_ref12_order x.1 x.2.1
noncomputable def con_ref12_order : List AV → Prog AV := conP true ash_ref12_order (.dat (.int .i64)) G_ref12_order
theorem snd_ref12_order : SoundA Try.prog 56 con_ref12_order := conP_sound (cal_ref12_order 56) true (by rfl) (by rfl) (fun x r e => (evGX_eq _ _ _ _ _ _ _).trans ((raw_ref12_order x.1 x.2.1).trans e)) (.inl rfl)
end Go.Proofs.Ytbdcblpjemmipaa.Ex

namespace Go.Proofs.Ytbdcblpjemmipaa.Ex
open Go.Proofs Go.Proofs.Ytbdcblpjemmipaa
set_option maxRecDepth 100000
set_option maxHeartbeats 2000000
set_option linter.unusedVariables false
set_option linter.unusedSimpArgs false
abbrev fn_82_0 := (fun (d : (((List En) × (Int × Unit)) × Unit)) => ((d.1.1, d.1.2.1) : ((List En) × Int)))
def ash_ref12_Is : List Sh := [.dat (.sl tEn)]
def kp_ref12_Is_21_0 : Nat → List Nat := fun c => bif c.beq 0 then [0, 3] else [2]
noncomputable def sp_ref12_Is : Nat → Option (List AV → Prog AV)
  | 19 => some (con_ref2_Is)
  | 49 => some (con_ref2_Empty)
  | 56 => some (con_ref12_order)
  | _ => none
theorem hsp_ref12_Is : ∀ g p, sp_ref12_Is g = some p → SoundA Try.prog g p := by
  intro g p h
  unfold sp_ref12_Is at h
  split at h
  · cases h; exact snd_ref2_Is
  · cases h; exact snd_ref2_Empty
  · cases h; exact snd_ref12_order
  · cases h
noncomputable def cx_ref12_Is0 : Ctx := { tab := tab, spec := sp_ref12_Is, inl := inl, lps := fun _ _ => none, fuel := 40 }
theorem in_ref12_Is0 : InlOk Try.prog cx_ref12_Is0 := ⟨inl_ok, fun _ _ _ _ _ _ _ _ h => nomatch h⟩
theorem cal_ref12_Is0 (g : Nat) : SoundA Try.prog g (evF cx_ref12_Is0 keeps 8 g) := evF_sound (tabOk_of tab_ok) (cmpsOk_of tab_ok cmps_ok) mixed in_ref12_Is0 hsp_ref12_Is keeps 8 g
noncomputable def F_ref12_Is_21_0 (base : Nat) : Tm → Prog (Nat × Tm) := evC cx_ref12_Is0 (evF cx_ref12_Is0 keeps 8) ⟨21, 58, keeps 21, base⟩ 0 (bodyX 21 0)
def s_ref12_Is_21_0_0 : StS := ⟨[(0, .sl tEn), (3, .int .i64)], [], 0⟩
def x_ref12_Is_21_0_0_0 : StS := ⟨[(2, .undef)], [], 0⟩
def x_ref12_Is_21_0_0_1 : StS := ⟨[(2, .bool)], [], 0⟩
noncomputable def st_ref12_Is_21_0_0 (s0 : (List En)) (s3 : Int) : Option (((List En) × Int) ⊕ (Unit ⊕ Bool)) :=
  bif decide (s3 < (↑s0.length : Int)) then
 bif decide (0 ≤ s3) then
 optC s0[s3.toNat]? none fun d4 ↦
 optC (G_ref2_Is (d4.2.2.2.2, ())) none fun d5 ↦
 bif !d5 then some (Sum.inr (Sum.inr false))
 else
 bif decide (0 ≤ s3) then
 optC s0[s3.toNat]? none fun d6 ↦
 bif decide (d6.2.2.2.2.1 > d6.2.2.2.2.2) then some (Sum.inr (Sum.inr false))
 else
 bif decide (0 ≤ s3) then
 optC s0[s3.toNat]? none fun d7 ↦
 bif decide (d7.2.2.2.1 < 0) then some (Sum.inr (Sum.inr false))
 else
 bif decide (0 ≤ s3) then
 optC s0[s3.toNat]? none fun d8 ↦
 bif decide (d8.2.2.2.1 ≥ 2147483648) then some (Sum.inr (Sum.inr false))
 else
 bif decide (s3 > 0) then
 bif decide (0 ≤ Go.IntKind.i64.wrap (s3 - 1)) then
 optC s0[(Go.IntKind.i64.wrap (s3 - 1)).toNat]? none fun d9 ↦
 bif decide (0 ≤ s3) then
 optC s0[s3.toNat]? none fun d10 ↦
 optC (G_ref12_order (d9, d10, ())) none fun d11 ↦
 bif decide (d11 ≥ 0) then some (Sum.inr (Sum.inr false)) else some (Sum.inl (s0, Go.IntKind.i64.wrap (s3 + 1)))
 else none
 else none
 else some (Sum.inl (s0, Go.IntKind.i64.wrap (s3 + 1)))
 else none
 else none
 else none
 else none
 else some (Sum.inr (Sum.inl PUnit.unit))
theorem rn_ref12_Is_21_0_0 (s0 : (List En)) (s3 : Int) : rdX cx_ref12_Is0 keeps 8 ⟨21, 58, keeps 21, 0⟩ 0 (bodyX 21 0) 0 kp_ref12_Is_21_0 (sT s_ref12_Is_21_0_0 ((s0, s3, ()), ())) (sH s_ref12_Is_21_0_0 ((s0, s3, ()), ())) (rdO (fun T h => (rdS s_ref12_Is_21_0_0 T h).map fn_82_0) (getOr (getE 2 x_ref12_Is_21_0_0_0 (fun (d : ((Unit × Unit) × Unit)) => (() : Unit))) (getE 1 x_ref12_Is_21_0_0_1 (fun (d : ((Bool × Unit) × Unit)) => ((d.1.1) : Bool))))) = st_ref12_Is_21_0_0 s0 s3 := by kernel_rfl
noncomputable def L_ref12_Is_21_0_0 (x : ((List En) × Int)) : Option (Unit ⊕ Bool) := iterO (fun x => st_ref12_Is_21_0_0 x.1 x.2) FUEL x
noncomputable def q_ref12_Is_21_0 : Nat → Tm → Prog (Nat × Tm) := (varP 0 (fun T h => (rdS s_ref12_Is_21_0_0 T h).map fn_82_0) L_ref12_Is_21_0_0 (fun y => .alt y (altE 2 x_ref12_Is_21_0_0_0 (fun (x : Unit) => ((((), ()), ()) : ((Unit × Unit) × Unit)))) (altE 1 x_ref12_Is_21_0_0_1 (fun (x : Bool) => (((x, ()), ()) : ((Bool × Unit) × Unit))))) (fun _ _ => .fail))
theorem ok_ref12_Is_21_0 : VarOk kp_ref12_Is_21_0 F_ref12_Is_21_0 q_ref12_Is_21_0 := (varX_ok (s := s_ref12_Is_21_0_0) (un := (fun (x : ((List En) × Int)) => (((x.1, x.2, ()), ()) : (((List En) × (Int × Unit)) × Unit)))) (by rfl) (fun _ => rfl) (getOr_ok (getE_ok (s := x_ref12_Is_21_0_0_0) (un := (fun (x : Unit) => ((((), ()), ()) : ((Unit × Unit) × Unit)))) (by rfl) (fun _ => rfl)) (getE_ok (s := x_ref12_Is_21_0_0_1) (un := (fun (x : Bool) => (((x, ()), ()) : ((Bool × Unit) × Unit)))) (by rfl) (fun _ => rfl))) (step := fun x => st_ref12_Is_21_0_0 x.1 x.2) (fun x => rn_ref12_Is_21_0_0 x.1 x.2) (fun _ _ e => ⟨_, e⟩) (altOr_ok (altE_ok 2 x_ref12_Is_21_0_0_0 (fun (x : Unit) => ((((), ()), ()) : ((Unit × Unit) × Unit)))) (altE_ok 1 x_ref12_Is_21_0_0_1 (fun (x : Bool) => (((x, ()), ()) : ((Bool × Unit) × Unit))))) (VarOk.fail _ _))
noncomputable def lpI_ref12_Is_21_0 (base : Nat) (T : Tm) : Prog (Nat × Tm) := .norm base (kp_ref12_Is_21_0 0) T (q_ref12_Is_21_0 base)
theorem sndI_ref12_Is_21_0 : SoundC Try.prog 58 (.loop (bodyX 21 0)) lpI_ref12_Is_21_0 := loopK_sound (cx := cx_ref12_Is0) (cal := evF cx_ref12_Is0 keeps 8) (kp := keeps 21) (tabOk_of tab_ok) (cmpsOk_of tab_ok cmps_ok) cal_ref12_Is0 mixed (hl_of (g := 21) (b := 0) in_ref12_Is0 (by kernel_rfl) (by kernel_rfl)) ok_ref12_Is_21_0
noncomputable def lpL_ref12_Is_21_0 : Nat → Tm → Prog (Nat × Tm) := lpI_ref12_Is_21_0
theorem sndL_ref12_Is_21_0 : SoundC Try.prog 58 (.loop (bodyX 21 0)) lpL_ref12_Is_21_0 := sndI_ref12_Is_21_0
noncomputable def lp_ref12_Is : Nat → Nat → Option (Nat → Tm → Prog (Nat × Tm))
  | 21, 0 => some lpL_ref12_Is_21_0
  | _, _ => none
noncomputable def cx_ref12_Is : Ctx := { tab := tab, spec := sp_ref12_Is, inl := inl, lps := lp_ref12_Is, fuel := 40 }
theorem in_ref12_Is : InlOk Try.prog cx_ref12_Is := ⟨inl_ok, fun g fn c hg hb q hq p hp => by
  change lp_ref12_Is g q.1 = some p at hp
  change inl g = some fn at hg
  generalize hq1 : q.1 = b at hp
  unfold lp_ref12_Is at hp
  split at hp
  · cases hp; exact lps_case (inl := inl) hg hb hq hq1 (by kernel_rfl) (by kernel_rfl) sndL_ref12_Is_21_0
  · cases hp⟩
theorem cal_ref12_Is (g : Nat) : SoundA Try.prog g (evF cx_ref12_Is keeps 8 g) := evF_sound (tabOk_of tab_ok) (cmpsOk_of tab_ok cmps_ok) mixed in_ref12_Is hsp_ref12_Is keeps 8 g
noncomputable def g_ref12_Is (a0 : (List En)) : Option Bool :=
  optC (L_ref12_Is_21_0_0 (a0, 0)) none fun d3 ↦ Sum.elim (fun e4 ↦ some true) (fun e4 ↦ some e4) d3
theorem raw_ref12_Is (a0 : (List En)) : evGX cx_ref12_Is keeps 8 21 ash_ref12_Is (.dat .bool) ((a0, ()) : ((List En) × Unit)) = g_ref12_Is a0 := by kernel_rfl
noncomputable def G_ref12_Is (x : ((List En) × Unit)) : Option Bool := g_ref12_Is x.1
noncomputable def con_ref12_Is : List AV → Prog AV := conP false ash_ref12_Is (.dat .bool) G_ref12_Is
theorem snd_ref12_Is : SoundA Try.prog 21 con_ref12_Is := conP_sound (cal_ref12_Is 21) false (by rfl) (by rfl) (fun x r e => (evGX_eq _ _ _ _ _ _ _).trans ((raw_ref12_Is x.1).trans e)) (.inr fun _ => rfl)
end Go.Proofs.Ytbdcblpjemmipaa.Ex

namespace Go.Proofs.Ytbdcblpjemmipaa.Ex
set_option maxRecDepth 100000
set_option maxHeartbeats 2000000
set_option linter.unusedVariables false
set_option linter.unusedSimpArgs false
noncomputable def bd_ref12_Is_21_0_0  (s0 : (List En)) (i : Nat)  (d : En) : Option (Unit ⊕ (Unit ⊕ Bool)) :=
  optC (G_ref2_Is (d.2.2.2.2, ())) (none) fun d5 ↦
   bif !d5 then
   some (Sum.inr (Sum.inr false))
 else bif decide (d.2.2.2.2.1 > d.2.2.2.2.2) then
   some (Sum.inr (Sum.inr false))
 else bif decide (d.2.2.2.1 < 0) then
   some (Sum.inr (Sum.inr false))
 else bif decide (d.2.2.2.1 ≥ 2147483648) then
   some (Sum.inr (Sum.inr false))
 else bif decide ((i : Int) > 0) then
   bif decide (0 ≤ Go.IntKind.i64.wrap ((i : Int) - 1)) then
   optC s0[(Go.IntKind.i64.wrap ((i : Int) - 1)).toNat]? (none) fun d9 ↦
   optC (G_ref12_order (d9, d, ())) (none) fun d11 ↦
   bif decide (d11 ≥ 0) then
   some (Sum.inr (Sum.inr false))
 else some (Sum.inl ())
 else none
 else some (Sum.inl ())
noncomputable def fn_ref12_Is_21_0_0  (s0 : (List En))  : Option (Unit ⊕ Bool) :=
  some (Sum.inl PUnit.unit)
noncomputable abbrev rx_ref12_Is_21_0_0  (s0 : (List En)) (i : Nat) (s : Unit) : ((List En) × Int) := (s0, (i : Int))
noncomputable def rv_ref12_Is_21_0_0  (s0 : (List En)) (s : Unit) : Option (Unit ⊕ Bool) := rangeO (fun i s d => bd_ref12_Is_21_0_0  s0 i  d) (fun s => fn_ref12_Is_21_0_0  s0 ) 0 s0 s
theorem rg_ref12_Is_21_0_0  (s0 : (List En)) (s : Unit) (hl : s0.length < 9223372036854775807) : L_ref12_Is_21_0_0 (s0, 0) = rv_ref12_Is_21_0_0  s0 s := by
  unfold L_ref12_Is_21_0_0 rv_ref12_Is_21_0_0
  refine iterO_range0 s0 (rx_ref12_Is_21_0_0  s0) _ _ ?_ ?_ s (by unfold FUEL; omega)
  · intro i s d hi hd
    have e1 : decide ((i : Int) < (s0.length : Int)) = true := decide_eq_true (by omega)
    have e2 : decide (0 ≤ (i : Int)) = true := decide_eq_true (by omega)
    have e3 : Int.toNat (i : Int) = i := Int.toNat_natCast i
    have e4 := wrap_next hi (Nat.le_of_lt hl)
    show st_ref12_Is_21_0_0 (s0) ((i : Int)) = upd _ (bd_ref12_Is_21_0_0  s0 i  d)
    unfold st_ref12_Is_21_0_0 bd_ref12_Is_21_0_0
    simp only [e1, e2, e3, e4, hd, cond_true, cond_false, optC_some, upd_cond, upd_optC, upd_elim, upd_inl, upd_inr, upd_none]
  · intro s
    have e1 : decide ((s0.length : Int) < (s0.length : Int)) = false := decide_eq_false (by omega)
    show st_ref12_Is_21_0_0 (s0) ((s0.length : Int)) = _
    unfold st_ref12_Is_21_0_0 fn_ref12_Is_21_0_0
    rw [e1]
    rfl
end Go.Proofs.Ytbdcblpjemmipaa.Ex

namespace Go.Proofs.Ytbdcblpjemmipaa.Ex
open Go.Proofs Go.Proofs.Ytbdcblpjemmipaa
set_option maxRecDepth 100000
set_option maxHeartbeats 2000000
set_option linter.unusedVariables false
set_option linter.unusedSimpArgs false
end Go.Proofs.Ytbdcblpjemmipaa.Ex

namespace Go.Proofs.Ytbdcblpjemmipaa.Ex
set_option maxRecDepth 100000
set_option maxHeartbeats 2000000
set_option linter.unusedVariables false
set_option linter.unusedSimpArgs false
end Go.Proofs.Ytbdcblpjemmipaa.Ex

namespace Go.Proofs.Ytbdcblpjemmipaa.Ex
open Go.Proofs Go.Proofs.Ytbdcblpjemmipaa
set_option maxRecDepth 100000
set_option maxHeartbeats 2000000
set_option linter.unusedVariables false
set_option linter.unusedSimpArgs false
end Go.Proofs.Ytbdcblpjemmipaa.Ex

namespace Go.Proofs.Ytbdcblpjemmipaa.Ex
set_option maxRecDepth 100000
set_option linter.unusedVariables false
set_option linter.unusedSimpArgs false
def arrI (e : En) : Int := if e.2.1 = true then 1 else 0
def cmpI (x y : Int) (r : Int) : Int := if x < y then -1 else if x > y then 1 else r
def ordI (a b : En) : Int := cmpI a.1 b.1 (cmpI (arrI a) (arrI b) (cmpI a.2.2.1 b.2.2.1 (cmpI a.2.2.2.1 b.2.2.2.1 0)))
theorem n_ref12_arr (e : En) : g_ref12_arr e = some (arrI e) := by
  unfold g_ref12_arr arrI
  cases e.2.1 <;> rfl
theorem ord_loop (x0 x1 x2 x3 y0 y1 y2 y3 : Int) : L_ref12_order_56_0_0 (0, [x0, x1, x2, x3], [y0, y1, y2, y3]) =
    some (if cmpI x0 y0 (cmpI x1 y1 (cmpI x2 y2 (cmpI x3 y3 0))) = 0 then .inl () else .inr (cmpI x0 y0 (cmpI x1 y1 (cmpI x2 y2 (cmpI x3 y3 0))))) := by
  unfold L_ref12_order_56_0_0
  refine iterO_mono 5 FUEL _ _ (by decide) ?_
  have go : ∀ (n : Nat) (i : Nat) (x y : Int) (X Y : List Int), X[i]? = some x → Y[i]? = some y → i < 4 → iterO (fun x => st_ref12_order_56_0_0 x.1 x.2.1 x.2.2) (n + 1) ((i : Int), X, Y) =
      if x < y then some (.inr (-1)) else if x > y then some (.inr 1) else iterO (fun x => st_ref12_order_56_0_0 x.1 x.2.1 x.2.2) n (((i + 1 : Nat) : Int), X, Y) := by
    intro n i x y X Y hx hy hi
    rw [iterO]
    simp only [st_ref12_order_56_0_0]
    rw [show decide ((i : Int) < 4) = true from decide_eq_true (by omega), show decide (0 ≤ (i : Int)) = true from decide_eq_true (by omega), Int.toNat_natCast, hx, hy]
    rw [wrap_next hi (by omega)]
    simp only [cond_true, optC_some]
    by_cases h1 : x < y
    · rw [decide_eq_true h1, if_pos h1]; rfl
    · by_cases h2 : x > y
      · rw [decide_eq_false h1, decide_eq_true h2, if_neg h1, if_pos h2]; rfl
      · rw [decide_eq_false h1, decide_eq_false h2, if_neg h1, if_neg h2]; rfl
  have e0 := go 4 0 x0 y0 [x0, x1, x2, x3] [y0, y1, y2, y3] rfl rfl (by decide)
  have e1 := go 3 1 x1 y1 [x0, x1, x2, x3] [y0, y1, y2, y3] rfl rfl (by decide)
  have e2 := go 2 2 x2 y2 [x0, x1, x2, x3] [y0, y1, y2, y3] rfl rfl (by decide)
  have e3 := go 1 3 x3 y3 [x0, x1, x2, x3] [y0, y1, y2, y3] rfl rfl (by decide)
  have e4 : iterO (fun x => st_ref12_order_56_0_0 x.1 x.2.1 x.2.2) 1 (((3 + 1 : Nat) : Int), [x0, x1, x2, x3], [y0, y1, y2, y3]) = some (.inl ()) := by rfl
  refine e0.trans ?_
  rw [e1, e2, e3, e4]
  unfold cmpI
  by_cases a0 : x0 < y0
  · simp [a0]
  by_cases b0 : x0 > y0
  · simp [a0, b0]
  by_cases a1 : x1 < y1
  · simp [a0, b0, a1]
  by_cases b1 : x1 > y1
  · simp [a0, b0, a1, b1]
  by_cases a2 : x2 < y2
  · simp [a0, b0, a1, b1, a2]
  by_cases b2 : x2 > y2
  · simp [a0, b0, a1, b1, a2, b2]
  by_cases a3 : x3 < y3
  · simp [a0, b0, a1, b1, a2, b2, a3]
  by_cases b3 : x3 > y3
  · simp [a0, b0, a1, b1, a2, b2, a3, b3]
  simp [a0, b0, a1, b1, a2, b2, a3, b3]
theorem n_ref12_order (a b : En) : g_ref12_order a b = some (ordI a b) := by
  unfold g_ref12_order G_ref12_arr
  simp only [n_ref12_arr, optC_some, ord_loop]
  unfold ordI
  split
  · rename_i h; rw [h]; rfl
  · rfl
structure entOK (e : En) : Prop where
  v : isB e.2.2.2.2 = true
  n : empB e.2.2.2.2 = false
  h : 0 ≤ e.2.2.2.1 ∧ e.2.2.2.1 < 2147483648
structure tabOK (l : List En) : Prop where
  e : ∀ x ∈ l, entOK x
  s : ∀ (i : Nat) (a b : En), l[i]? = some a → l[i + 1]? = some b → ordI a b < 0
def entB (e : En) : Bool := isB e.2.2.2.2 && !empB e.2.2.2.2 && !decide (e.2.2.2.1 < 0) && !decide (e.2.2.2.1 ≥ 2147483648)
def aheadB (l : List En) (i : Nat) (d : En) : Bool := entB d && (bif decide (i > 0) then (l[i - 1]?).elim false (fun p => !decide (ordI p d ≥ 0)) else true)
def isTabB (l : List En) : Bool := allIx (aheadB l) 0 l
theorem n_ref12_Is (l : List En) (hl : l.length < 9223372036854775807) : g_ref12_Is l = some (isTabB l) := by
  unfold g_ref12_Is
  rw [rg_ref12_Is_21_0_0 l () hl]
  unfold rv_ref12_Is_21_0_0
  rw [rangeO_ask (p := aheadB l) (o := .inr false) l 0 fun j d hd => ?_]
  · unfold isTabB
    cases allIx (aheadB l) 0 l <;> rfl
  · have hj : j < l.length := (List.getElem?_eq_some_iff.1 hd).1
    unfold bd_ref12_Is_21_0_0 G_ref2_Is G_ref12_order aheadB entB
    simp only [n_ref2_Is, n_ref12_order, optC_some, Nat.zero_add]
    cases isB d.2.2.2.2
    · rfl
    by_cases h1 : d.2.2.2.2.1 > d.2.2.2.2.2
    · rw [decide_eq_true h1, show empB d.2.2.2.2 = true from emp_yes h1]; rfl
    rw [decide_eq_false h1, show empB d.2.2.2.2 = false from emp_no (Int.not_lt.1 h1)]
    by_cases h2 : d.2.2.2.1 < 0
    · rw [decide_eq_true h2]; rfl
    by_cases h3 : d.2.2.2.1 ≥ 2147483648
    · rw [decide_eq_false h2, decide_eq_true h3]; rfl
    rw [decide_eq_false h2, decide_eq_false h3]
    by_cases h4 : j > 0
    · rw [show decide ((j : Int) > 0) = true from decide_eq_true (by omega), decide_eq_true h4]
      have e5 : IntKind.i64.wrap ((j : Int) - 1) = ((j - 1 : Nat) : Int) := by rw [wrap_fits (by omega) (by omega)]; omega
      rw [e5, show decide (0 ≤ ((j - 1 : Nat) : Int)) = true from decide_eq_true (by omega), Int.toNat_natCast]
      obtain ⟨p, hp⟩ : ∃ p, l[j - 1]? = some p := ⟨l[j - 1]'(by omega), List.getElem?_eq_getElem _⟩
      rw [hp]
      simp only [cond_true, cond_false, optC_some, Option.elim_some, Bool.not_true, Bool.not_false, Bool.true_and]
      cases decide (ordI p d ≥ 0) <;> rfl
    · rw [show decide ((j : Int) > 0) = false from decide_eq_false (by omega), decide_eq_false h4]; rfl
theorem isTabB_ok {l : List En} (h : isTabB l = true) : tabOK l := by
  have k := allIx_iff.1 h
  have ent : ∀ (j : Nat) (d : En), l[j]? = some d → entOK d := fun j d hd => by
    have := k j d hd
    unfold aheadB entB at this
    simp only [Bool.and_eq_true, Bool.not_eq_true', decide_eq_false_iff_not] at this
    exact ⟨this.1.1.1.1, this.1.1.1.2, by omega⟩
  refine ⟨fun x hx => ?_, fun i a b ha hb => ?_⟩
  · obtain ⟨j, hj, rfl⟩ := List.mem_iff_getElem.1 hx
    exact ent j _ (List.getElem?_eq_getElem hj)
  · have := k (i + 1) b hb
    unfold aheadB at this
    rw [Nat.zero_add, show decide (i + 1 > 0) = true from decide_eq_true (by omega), Nat.add_sub_cancel, ha] at this
    simp only [cond_true, Option.elim_some, Bool.and_eq_true, Bool.not_eq_true', decide_eq_false_iff_not] at this
    omega
structure envOK (u : U) (t : Int) (e : E) : Prop where
  c : ∃ c, u.2.2.2[t.toNat]? = some c ∧ (e.2.1.length : Int) = c.1
  g : e.2.2.1.length = u.1.length
  a : e.2.2.2.1.length = u.2.1.length
  must : 0 ≤ e.2.2.2.2.1 ∧ e.2.2.2.2.1 < 2147483648
  may : 0 ≤ e.2.2.2.2.2 ∧ e.2.2.2.2.2 < 2147483648
  v : ∀ x ∈ e.2.1 ++ e.2.2.1 ++ e.2.2.2.1, isB x = true ∧ empB x = false
structure askedOK (u : U) (t : Int) (e : E) (l : List En) : Prop where
  hu : unitOK u
  ht : 0 ≤ t ∧ t < (u.2.2.2.length : Int)
  he : e.1 = true → envOK u t e
  hn : l.length ≤ 60
  hl : tabOK l
end Go.Proofs.Ytbdcblpjemmipaa.Ex

namespace Go.Proofs.Ytbdcblpjemmipaa.Ex
set_option maxRecDepth 100000
set_option maxHeartbeats 2000000
set_option linter.unusedVariables false
set_option linter.unusedSimpArgs false
noncomputable def bd_held_bits_91_0_0  (s6 : (List Int)) (i : Nat) (s3 : Int) (d : Int) : Option (Int ⊕ Int) :=
  bif decide (d ≥ 0) then
   bif decide (d < 31) then
   bif decide (d < 0) then
   none
 else some (Sum.inl (Go.IntKind.i64.wrap (↑(BitVec.ofInt Go.IntKind.i64.bits s3 ||| BitVec.ofInt Go.IntKind.i64.bits (Go.IntKind.i64.wrap (1 * 2 ^ Min.min (Int.toNat d) Go.IntKind.i64.bits))).toNat : Int)))
 else some (Sum.inl (s3))
 else some (Sum.inl (s3))
noncomputable def fn_held_bits_91_0_0  (s6 : (List Int)) (s3 : Int) : Option Int :=
  some s3
noncomputable abbrev rx_held_bits_91_0_0  (s6 : (List Int)) (i : Nat) (s : Int) : (Int × (List Int) × Int × Int) := (s, s6, (s6.length : Int), (i : Int))
noncomputable def rv_held_bits_91_0_0  (s6 : (List Int)) (s : Int) : Option Int := rangeO (fun i s d => bd_held_bits_91_0_0  s6 i s d) (fun s => fn_held_bits_91_0_0  s6 s) 0 s6 s
theorem rg_held_bits_91_0_0  (s6 : (List Int)) (s : Int) (hl : s6.length < 9223372036854775807) : L_held_bits_91_0_0 (s, s6, (s6.length : Int), 0) = rv_held_bits_91_0_0  s6 s := by
  unfold L_held_bits_91_0_0 rv_held_bits_91_0_0
  refine iterO_range0 s6 (rx_held_bits_91_0_0  s6) _ _ ?_ ?_ s (by unfold FUEL; omega)
  · intro i s d hi hd
    have e1 : decide ((i : Int) < (s6.length : Int)) = true := decide_eq_true (by omega)
    have e2 : decide (0 ≤ (i : Int)) = true := decide_eq_true (by omega)
    have e3 : Int.toNat (i : Int) = i := Int.toNat_natCast i
    have e4 := wrap_next hi (Nat.le_of_lt hl)
    show st_held_bits_91_0_0 (s) (s6) ((s6.length : Int)) ((i : Int)) = upd _ (bd_held_bits_91_0_0  s6 i s d)
    unfold st_held_bits_91_0_0 bd_held_bits_91_0_0
    simp only [e1, e2, e3, e4, hd, cond_true, cond_false, optC_some, upd_cond, upd_optC, upd_elim, upd_inl, upd_inr, upd_none]
  · intro s
    have e1 : decide ((s6.length : Int) < (s6.length : Int)) = false := decide_eq_false (by omega)
    show st_held_bits_91_0_0 (s) (s6) ((s6.length : Int)) ((s6.length : Int)) = _
    unfold st_held_bits_91_0_0 fn_held_bits_91_0_0
    rw [e1]
    rfl
end Go.Proofs.Ytbdcblpjemmipaa.Ex

namespace Go.Proofs.Ytbdcblpjemmipaa.Ex
open Go.Proofs Go.Proofs.Ytbdcblpjemmipaa
set_option maxRecDepth 100000
set_option maxHeartbeats 2000000
set_option linter.unusedVariables false
set_option linter.unusedSimpArgs false
end Go.Proofs.Ytbdcblpjemmipaa.Ex

namespace Go.Proofs.Ytbdcblpjemmipaa.Ex
set_option maxRecDepth 100000
set_option maxHeartbeats 2000000
set_option linter.unusedVariables false
set_option linter.unusedSimpArgs false
end Go.Proofs.Ytbdcblpjemmipaa.Ex

namespace Go.Proofs.Ytbdcblpjemmipaa.Ex
open Go.Proofs Go.Proofs.Ytbdcblpjemmipaa
set_option maxRecDepth 100000
set_option maxHeartbeats 2000000
set_option linter.unusedVariables false
set_option linter.unusedSimpArgs false
end Go.Proofs.Ytbdcblpjemmipaa.Ex

namespace Go.Proofs.Ytbdcblpjemmipaa.Ex
set_option maxRecDepth 100000
set_option maxHeartbeats 2000000
set_option linter.unusedVariables false
set_option linter.unusedSimpArgs false
end Go.Proofs.Ytbdcblpjemmipaa.Ex

namespace Go.Proofs.Ytbdcblpjemmipaa.Ex
open Go.Proofs Go.Proofs.Ytbdcblpjemmipaa
set_option maxRecDepth 100000
set_option maxHeartbeats 2000000
set_option linter.unusedVariables false
set_option linter.unusedSimpArgs false
end Go.Proofs.Ytbdcblpjemmipaa.Ex

namespace Go.Proofs.Ytbdcblpjemmipaa.Ex
open Go.Proofs Go.Proofs.Ytbdcblpjemmipaa
set_option maxRecDepth 100000
set_option maxHeartbeats 2000000
set_option linter.unusedVariables false
set_option linter.unusedSimpArgs false
end Go.Proofs.Ytbdcblpjemmipaa.Ex

namespace Go.Proofs.Ytbdcblpjemmipaa.Ex
set_option maxRecDepth 100000
set_option maxHeartbeats 2000000
set_option linter.unusedVariables false
set_option linter.unusedSimpArgs false
noncomputable def bd_itv_Join_55_0_0 (b0 : Int) (b0_1 : Int) (s7 : (List I)) (i : Nat) (b1 : Int) (b1_1 : Int) (d : I) : Option ((Int × Int) ⊕ (Int × Int × Int × Int)) :=
  bif decide (d.1 > d.2) then
   some (Sum.inl (b1, b1_1))
 else bif decide (b1 > b1_1) then
   some (Sum.inl (d.1, d.2))
 else some (Sum.inl (if d.1 < b1 then d.1 else b1, if d.2 > b1_1 then d.2 else b1_1))
noncomputable def fn_itv_Join_55_0_0 (b0 : Int) (b0_1 : Int) (s7 : (List I)) (b1 : Int) (b1_1 : Int) : Option (Int × Int × Int × Int) :=
  some (b0, b0_1, b1, b1_1)
noncomputable abbrev rx_itv_Join_55_0_0 (b0 : Int) (b0_1 : Int) (s7 : (List I)) (i : Nat) (s : (Int × Int)) : ((List I) × Int × Int × Int × Int × Int × Int) := (s7, (s7.length : Int), (i : Int), b0, b0_1, s.1, s.2)
noncomputable def rv_itv_Join_55_0_0 (b0 : Int) (b0_1 : Int) (s7 : (List I)) (s : (Int × Int)) : Option (Int × Int × Int × Int) := rangeO (fun i s d => bd_itv_Join_55_0_0 b0 b0_1 s7 i s.1 s.2 d) (fun s => fn_itv_Join_55_0_0 b0 b0_1 s7 s.1 s.2) 0 s7 s
theorem rg_itv_Join_55_0_0 (b0 : Int) (b0_1 : Int) (s7 : (List I)) (s : (Int × Int)) (hl : s7.length < 9223372036854775807) : L_itv_Join_55_0_0 (s7, (s7.length : Int), 0, b0, b0_1, s.1, s.2) = rv_itv_Join_55_0_0 b0 b0_1 s7 s := by
  unfold L_itv_Join_55_0_0 rv_itv_Join_55_0_0
  refine iterO_range0 s7 (rx_itv_Join_55_0_0 b0 b0_1 s7) _ _ ?_ ?_ s (by unfold FUEL; omega)
  · intro i s d hi hd
    have e1 : decide ((i : Int) < (s7.length : Int)) = true := decide_eq_true (by omega)
    have e2 : decide (0 ≤ (i : Int)) = true := decide_eq_true (by omega)
    have e3 : Int.toNat (i : Int) = i := Int.toNat_natCast i
    have e4 := wrap_next hi (Nat.le_of_lt hl)
    show st_itv_Join_55_0_0 (s7) ((s7.length : Int)) ((i : Int)) (b0) (b0_1) (s.1) (s.2) = upd _ (bd_itv_Join_55_0_0 b0 b0_1 s7 i s.1 s.2 d)
    unfold st_itv_Join_55_0_0 bd_itv_Join_55_0_0
    simp only [e1, e2, e3, e4, hd, cond_true, cond_false, optC_some, upd_cond, upd_optC, upd_elim, upd_inl, upd_inr, upd_none]
  · intro s
    have e1 : decide ((s7.length : Int) < (s7.length : Int)) = false := decide_eq_false (by omega)
    show st_itv_Join_55_0_0 (s7) ((s7.length : Int)) ((s7.length : Int)) (b0) (b0_1) (s.1) (s.2) = _
    unfold st_itv_Join_55_0_0 fn_itv_Join_55_0_0
    rw [e1]
    rfl
end Go.Proofs.Ytbdcblpjemmipaa.Ex

namespace Go.Proofs.Ytbdcblpjemmipaa.Ex
open Go.Proofs Go.Proofs.Ytbdcblpjemmipaa
set_option maxRecDepth 100000
set_option maxHeartbeats 2000000
set_option linter.unusedVariables false
set_option linter.unusedSimpArgs false
abbrev fn_96_0 := (fun (d : (((List Int) × (Int × (Int × Unit))) × Unit)) => ((d.1.1, d.1.2.1, d.1.2.2.1) : ((List Int) × Int × Int)))
def ash_num_Fits : List Sh := [.dat (.sl (.int .i64))]
def kp_num_Fits_98_0 : Nat → List Nat := fun c => bif c.beq 0 then [5, 6, 7] else [2]
noncomputable def sp_num_Fits : Nat → Option (List AV → Prog AV)
  | _ => none
theorem hsp_num_Fits : ∀ g p, sp_num_Fits g = some p → SoundA Try.prog g p := by
  intro g p h
  unfold sp_num_Fits at h
  split at h
  · cases h
noncomputable def cx_num_Fits0 : Ctx := { tab := tab, spec := sp_num_Fits, inl := inl, lps := fun _ _ => none, fuel := 40 }
theorem in_num_Fits0 : InlOk Try.prog cx_num_Fits0 := ⟨inl_ok, fun _ _ _ _ _ _ _ _ h => nomatch h⟩
theorem cal_num_Fits0 (g : Nat) : SoundA Try.prog g (evF cx_num_Fits0 keeps 8 g) := evF_sound (tabOk_of tab_ok) (cmpsOk_of tab_ok cmps_ok) mixed in_num_Fits0 hsp_num_Fits keeps 8 g
noncomputable def F_num_Fits_98_0 (base : Nat) : Tm → Prog (Nat × Tm) := evC cx_num_Fits0 (evF cx_num_Fits0 keeps 8) ⟨98, 18, keeps 98, base⟩ 0 (bodyX 98 0)
def s_num_Fits_98_0_0 : StS := ⟨[(5, .sl (.int .i64)), (6, .int .i64), (7, .int .i64)], [], 0⟩
def x_num_Fits_98_0_0_0 : StS := ⟨[(2, .undef)], [], 0⟩
def x_num_Fits_98_0_0_1 : StS := ⟨[(2, .bool)], [], 0⟩
noncomputable def st_num_Fits_98_0_0 (s5 : (List Int)) (s6 : Int) (s7 : Int) : Option (((List Int) × Int × Int) ⊕ (Unit ⊕ Bool)) :=
  bif decide (s7 < s6) then
 bif decide (0 ≤ s7) then
 optC s5[s7.toNat]? none fun d5 ↦
 bif decide (d5 < -2147483648) then some (Sum.inr (Sum.inr false))
 else bif decide (d5 > 2147483647) then some (Sum.inr (Sum.inr false)) else some (Sum.inl (s5, s6, Go.IntKind.i64.wrap (s7 + 1)))
 else none
 else some (Sum.inr (Sum.inl PUnit.unit))
theorem rn_num_Fits_98_0_0 (s5 : (List Int)) (s6 : Int) (s7 : Int) : rdX cx_num_Fits0 keeps 8 ⟨98, 18, keeps 98, 0⟩ 0 (bodyX 98 0) 0 kp_num_Fits_98_0 (sT s_num_Fits_98_0_0 ((s5, s6, s7, ()), ())) (sH s_num_Fits_98_0_0 ((s5, s6, s7, ()), ())) (rdO (fun T h => (rdS s_num_Fits_98_0_0 T h).map fn_96_0) (getOr (getE 2 x_num_Fits_98_0_0_0 (fun (d : ((Unit × Unit) × Unit)) => (() : Unit))) (getE 1 x_num_Fits_98_0_0_1 (fun (d : ((Bool × Unit) × Unit)) => ((d.1.1) : Bool))))) = st_num_Fits_98_0_0 s5 s6 s7 := by kernel_rfl
noncomputable def L_num_Fits_98_0_0 (x : ((List Int) × Int × Int)) : Option (Unit ⊕ Bool) := iterO (fun x => st_num_Fits_98_0_0 x.1 x.2.1 x.2.2) FUEL x
noncomputable def q_num_Fits_98_0 : Nat → Tm → Prog (Nat × Tm) := (varP 0 (fun T h => (rdS s_num_Fits_98_0_0 T h).map fn_96_0) L_num_Fits_98_0_0 (fun y => .alt y (altE 2 x_num_Fits_98_0_0_0 (fun (x : Unit) => ((((), ()), ()) : ((Unit × Unit) × Unit)))) (altE 1 x_num_Fits_98_0_0_1 (fun (x : Bool) => (((x, ()), ()) : ((Bool × Unit) × Unit))))) (fun _ _ => .fail))
theorem ok_num_Fits_98_0 : VarOk kp_num_Fits_98_0 F_num_Fits_98_0 q_num_Fits_98_0 := (varX_ok (s := s_num_Fits_98_0_0) (un := (fun (x : ((List Int) × Int × Int)) => (((x.1, x.2.1, x.2.2, ()), ()) : (((List Int) × (Int × (Int × Unit))) × Unit)))) (by rfl) (fun _ => rfl) (getOr_ok (getE_ok (s := x_num_Fits_98_0_0_0) (un := (fun (x : Unit) => ((((), ()), ()) : ((Unit × Unit) × Unit)))) (by rfl) (fun _ => rfl)) (getE_ok (s := x_num_Fits_98_0_0_1) (un := (fun (x : Bool) => (((x, ()), ()) : ((Bool × Unit) × Unit)))) (by rfl) (fun _ => rfl))) (step := fun x => st_num_Fits_98_0_0 x.1 x.2.1 x.2.2) (fun x => rn_num_Fits_98_0_0 x.1 x.2.1 x.2.2) (fun _ _ e => ⟨_, e⟩) (altOr_ok (altE_ok 2 x_num_Fits_98_0_0_0 (fun (x : Unit) => ((((), ()), ()) : ((Unit × Unit) × Unit)))) (altE_ok 1 x_num_Fits_98_0_0_1 (fun (x : Bool) => (((x, ()), ()) : ((Bool × Unit) × Unit))))) (VarOk.fail _ _))
noncomputable def lpI_num_Fits_98_0 (base : Nat) (T : Tm) : Prog (Nat × Tm) := .norm base (kp_num_Fits_98_0 0) T (q_num_Fits_98_0 base)
theorem sndI_num_Fits_98_0 : SoundC Try.prog 18 (.loop (bodyX 98 0)) lpI_num_Fits_98_0 := loopK_sound (cx := cx_num_Fits0) (cal := evF cx_num_Fits0 keeps 8) (kp := keeps 98) (tabOk_of tab_ok) (cmpsOk_of tab_ok cmps_ok) cal_num_Fits0 mixed (hl_of (g := 98) (b := 0) in_num_Fits0 (by kernel_rfl) (by kernel_rfl)) ok_num_Fits_98_0
noncomputable def lpL_num_Fits_98_0 : Nat → Tm → Prog (Nat × Tm) := lpI_num_Fits_98_0
theorem sndL_num_Fits_98_0 : SoundC Try.prog 18 (.loop (bodyX 98 0)) lpL_num_Fits_98_0 := sndI_num_Fits_98_0
noncomputable def lp_num_Fits : Nat → Nat → Option (Nat → Tm → Prog (Nat × Tm))
  | 98, 0 => some lpL_num_Fits_98_0
  | _, _ => none
noncomputable def cx_num_Fits : Ctx := { tab := tab, spec := sp_num_Fits, inl := inl, lps := lp_num_Fits, fuel := 40 }
theorem in_num_Fits : InlOk Try.prog cx_num_Fits := ⟨inl_ok, fun g fn c hg hb q hq p hp => by
  change lp_num_Fits g q.1 = some p at hp
  change inl g = some fn at hg
  generalize hq1 : q.1 = b at hp
  unfold lp_num_Fits at hp
  split at hp
  · cases hp; exact lps_case (inl := inl) hg hb hq hq1 (by kernel_rfl) (by kernel_rfl) sndL_num_Fits_98_0
  · cases hp⟩
theorem cal_num_Fits (g : Nat) : SoundA Try.prog g (evF cx_num_Fits keeps 8 g) := evF_sound (tabOk_of tab_ok) (cmpsOk_of tab_ok cmps_ok) mixed in_num_Fits hsp_num_Fits keeps 8 g
noncomputable def g_num_Fits (a0 : (List Int)) : Option Bool :=
  optC (L_num_Fits_98_0_0 (a0, (↑a0.length : Int), 0)) none fun d3 ↦ Sum.elim (fun e4 ↦ some true) (fun e4 ↦ some e4) d3
theorem raw_num_Fits (a0 : (List Int)) : evGX cx_num_Fits keeps 8 98 ash_num_Fits (.dat .bool) ((a0, ()) : ((List Int) × Unit)) = g_num_Fits a0 := by kernel_rfl
noncomputable def G_num_Fits (x : ((List Int) × Unit)) : Option Bool := g_num_Fits x.1
noncomputable def con_num_Fits : List AV → Prog AV := conP true ash_num_Fits (.dat .bool) G_num_Fits
theorem snd_num_Fits : SoundA Try.prog 98 con_num_Fits := conP_sound (cal_num_Fits 98) true (by rfl) (by rfl) (fun x r e => (evGX_eq _ _ _ _ _ _ _).trans ((raw_num_Fits x.1).trans e)) (.inl rfl)
end Go.Proofs.Ytbdcblpjemmipaa.Ex

namespace Go.Proofs.Ytbdcblpjemmipaa.Ex
open Go.Proofs Go.Proofs.Ytbdcblpjemmipaa
set_option maxRecDepth 100000
set_option maxHeartbeats 2000000
set_option linter.unusedVariables false
set_option linter.unusedSimpArgs false
end Go.Proofs.Ytbdcblpjemmipaa.Ex

namespace Go.Proofs.Ytbdcblpjemmipaa.Ex
set_option maxRecDepth 100000
set_option maxHeartbeats 2000000
set_option linter.unusedVariables false
set_option linter.unusedSimpArgs false
end Go.Proofs.Ytbdcblpjemmipaa.Ex

namespace Go.Proofs.Ytbdcblpjemmipaa.Ex
set_option maxRecDepth 100000
set_option maxHeartbeats 2000000
set_option linter.unusedVariables false
set_option linter.unusedSimpArgs false
noncomputable def bd_num_Fits_98_0_0  (s5 : (List Int)) (i : Nat)  (d : Int) : Option (Unit ⊕ (Unit ⊕ Bool)) :=
  bif decide (d < -2147483648) then
   some (Sum.inr (Sum.inr false))
 else bif decide (d > 2147483647) then
   some (Sum.inr (Sum.inr false))
 else some (Sum.inl ())
noncomputable def fn_num_Fits_98_0_0  (s5 : (List Int))  : Option (Unit ⊕ Bool) :=
  some (Sum.inl PUnit.unit)
noncomputable abbrev rx_num_Fits_98_0_0  (s5 : (List Int)) (i : Nat) (s : Unit) : ((List Int) × Int × Int) := (s5, (s5.length : Int), (i : Int))
noncomputable def rv_num_Fits_98_0_0  (s5 : (List Int)) (s : Unit) : Option (Unit ⊕ Bool) := rangeO (fun i s d => bd_num_Fits_98_0_0  s5 i  d) (fun s => fn_num_Fits_98_0_0  s5 ) 0 s5 s
theorem rg_num_Fits_98_0_0  (s5 : (List Int)) (s : Unit) (hl : s5.length < 9223372036854775807) : L_num_Fits_98_0_0 (s5, (s5.length : Int), 0) = rv_num_Fits_98_0_0  s5 s := by
  unfold L_num_Fits_98_0_0 rv_num_Fits_98_0_0
  refine iterO_range0 s5 (rx_num_Fits_98_0_0  s5) _ _ ?_ ?_ s (by unfold FUEL; omega)
  · intro i s d hi hd
    have e1 : decide ((i : Int) < (s5.length : Int)) = true := decide_eq_true (by omega)
    have e2 : decide (0 ≤ (i : Int)) = true := decide_eq_true (by omega)
    have e3 : Int.toNat (i : Int) = i := Int.toNat_natCast i
    have e4 := wrap_next hi (Nat.le_of_lt hl)
    show st_num_Fits_98_0_0 (s5) ((s5.length : Int)) ((i : Int)) = upd _ (bd_num_Fits_98_0_0  s5 i  d)
    unfold st_num_Fits_98_0_0 bd_num_Fits_98_0_0
    simp only [e1, e2, e3, e4, hd, cond_true, cond_false, optC_some, upd_cond, upd_optC, upd_elim, upd_inl, upd_inr, upd_none]
  · intro s
    have e1 : decide ((s5.length : Int) < (s5.length : Int)) = false := decide_eq_false (by omega)
    show st_num_Fits_98_0_0 (s5) ((s5.length : Int)) ((s5.length : Int)) = _
    unfold st_num_Fits_98_0_0 fn_num_Fits_98_0_0
    rw [e1]
    rfl
end Go.Proofs.Ytbdcblpjemmipaa.Ex

namespace Go.Proofs.Ytbdcblpjemmipaa.Ex
open Go.Proofs Go.Proofs.Ytbdcblpjemmipaa
set_option maxRecDepth 100000
set_option maxHeartbeats 2000000
set_option linter.unusedVariables false
set_option linter.unusedSimpArgs false
end Go.Proofs.Ytbdcblpjemmipaa.Ex

namespace Go.Proofs.Ytbdcblpjemmipaa.Ex
open Go.Proofs Go.Proofs.Ytbdcblpjemmipaa
set_option maxRecDepth 100000
set_option maxHeartbeats 2000000
set_option linter.unusedVariables false
set_option linter.unusedSimpArgs false
end Go.Proofs.Ytbdcblpjemmipaa.Ex

namespace Go.Proofs.Ytbdcblpjemmipaa.Ex
open Go.Proofs Go.Proofs.Ytbdcblpjemmipaa
set_option maxRecDepth 100000
set_option maxHeartbeats 2000000
set_option linter.unusedVariables false
set_option linter.unusedSimpArgs false
def ash_itv_Leq : List Sh := [.dat tI, .dat tI]
noncomputable def sp_itv_Leq : Nat → Option (List AV → Prog AV)
  | 92 => some (con_itv_Empty)
  | _ => none
theorem hsp_itv_Leq : ∀ g p, sp_itv_Leq g = some p → SoundA Try.prog g p := by
  intro g p h
  unfold sp_itv_Leq at h
  split at h
  · cases h; exact snd_itv_Empty
  · cases h
noncomputable def cx_itv_Leq : Ctx := { tab := tab, spec := sp_itv_Leq, inl := inl, lps := fun _ _ => none, fuel := 40 }
theorem in_itv_Leq : InlOk Try.prog cx_itv_Leq := ⟨inl_ok, fun _ _ _ _ _ _ _ _ h => nomatch h⟩
theorem cal_itv_Leq (g : Nat) : SoundA Try.prog g (evF cx_itv_Leq keeps 8 g) := evF_sound (tabOk_of tab_ok) (cmpsOk_of tab_ok cmps_ok) mixed in_itv_Leq hsp_itv_Leq keeps 8 g
noncomputable def g_itv_Leq (a0 : I) (a1 : I) : Option Bool :=
  bif decide (a0.1 > a0.2) then some true else bif decide (a0.1 ≥ a1.1) then some (decide (a0.2 ≤ a1.2)) else some false
theorem raw_itv_Leq (a0 : I) (a1 : I) : evGX cx_itv_Leq keeps 8 61 ash_itv_Leq (.dat .bool) ((a0, a1, ()) : (I × (I × Unit))) = g_itv_Leq a0 a1 := by kernel_rfl
noncomputable def G_itv_Leq (x : (I × (I × Unit))) : Option Bool := g_itv_Leq x.1 x.2.1
noncomputable def con_itv_Leq : List AV → Prog AV := conP true ash_itv_Leq (.dat .bool) G_itv_Leq
theorem snd_itv_Leq : SoundA Try.prog 61 con_itv_Leq := conP_sound (cal_itv_Leq 61) true (by rfl) (by rfl) (fun x r e => (evGX_eq _ _ _ _ _ _ _).trans ((raw_itv_Leq x.1 x.2.1).trans e)) (.inl rfl)
end Go.Proofs.Ytbdcblpjemmipaa.Ex

namespace Go.Proofs.Ytbdcblpjemmipaa.Ex
open Go.Proofs Go.Proofs.Ytbdcblpjemmipaa
set_option maxRecDepth 100000
set_option maxHeartbeats 2000000
set_option linter.unusedVariables false
set_option linter.unusedSimpArgs false
end Go.Proofs.Ytbdcblpjemmipaa.Ex

namespace Go.Proofs.Ytbdcblpjemmipaa.Ex
set_option maxRecDepth 100000
set_option maxHeartbeats 2000000
set_option linter.unusedVariables false
set_option linter.unusedSimpArgs false
end Go.Proofs.Ytbdcblpjemmipaa.Ex

namespace Go.Proofs.Ytbdcblpjemmipaa.Ex
open Go.Proofs Go.Proofs.Ytbdcblpjemmipaa
set_option maxRecDepth 100000
set_option maxHeartbeats 2000000
set_option linter.unusedVariables false
set_option linter.unusedSimpArgs false
end Go.Proofs.Ytbdcblpjemmipaa.Ex

namespace Go.Proofs.Ytbdcblpjemmipaa.Ex
open Go.Proofs Go.Proofs.Ytbdcblpjemmipaa
set_option maxRecDepth 100000
set_option maxHeartbeats 2000000
set_option linter.unusedVariables false
set_option linter.unusedSimpArgs false
end Go.Proofs.Ytbdcblpjemmipaa.Ex

namespace Go.Proofs.Ytbdcblpjemmipaa.Ex
open Go.Proofs Go.Proofs.Ytbdcblpjemmipaa
set_option maxRecDepth 100000
set_option maxHeartbeats 2000000
set_option linter.unusedVariables false
set_option linter.unusedSimpArgs false
end Go.Proofs.Ytbdcblpjemmipaa.Ex

namespace Go.Proofs.Ytbdcblpjemmipaa.Ex
open Go.Proofs Go.Proofs.Ytbdcblpjemmipaa
set_option maxRecDepth 100000
set_option maxHeartbeats 2000000
set_option linter.unusedVariables false
set_option linter.unusedSimpArgs false
end Go.Proofs.Ytbdcblpjemmipaa.Ex

namespace Go.Proofs.Ytbdcblpjemmipaa.Ex
open Go.Proofs Go.Proofs.Ytbdcblpjemmipaa
set_option maxRecDepth 100000
set_option maxHeartbeats 2000000
set_option linter.unusedVariables false
set_option linter.unusedSimpArgs false
end Go.Proofs.Ytbdcblpjemmipaa.Ex

namespace Go.Proofs.Ytbdcblpjemmipaa.Ex
open Go.Proofs Go.Proofs.Ytbdcblpjemmipaa
set_option maxRecDepth 100000
set_option maxHeartbeats 2000000
set_option linter.unusedVariables false
set_option linter.unusedSimpArgs false
end Go.Proofs.Ytbdcblpjemmipaa.Ex

namespace Go.Proofs.Ytbdcblpjemmipaa.Ex
open Go.Proofs Go.Proofs.Ytbdcblpjemmipaa
set_option maxRecDepth 100000
set_option maxHeartbeats 2000000
set_option linter.unusedVariables false
set_option linter.unusedSimpArgs false
end Go.Proofs.Ytbdcblpjemmipaa.Ex

namespace Go.Proofs.Ytbdcblpjemmipaa.Ex
open Go.Proofs Go.Proofs.Ytbdcblpjemmipaa
set_option maxRecDepth 100000
set_option maxHeartbeats 2000000
set_option linter.unusedVariables false
set_option linter.unusedSimpArgs false
end Go.Proofs.Ytbdcblpjemmipaa.Ex

namespace Go.Proofs.Ytbdcblpjemmipaa.Ex
open Go.Proofs Go.Proofs.Ytbdcblpjemmipaa
set_option maxRecDepth 100000
set_option maxHeartbeats 2000000
set_option linter.unusedVariables false
set_option linter.unusedSimpArgs false
end Go.Proofs.Ytbdcblpjemmipaa.Ex

namespace Go.Proofs.Ytbdcblpjemmipaa.Ex
open Go.Proofs Go.Proofs.Ytbdcblpjemmipaa
set_option maxRecDepth 100000
set_option maxHeartbeats 2000000
set_option linter.unusedVariables false
set_option linter.unusedSimpArgs false
end Go.Proofs.Ytbdcblpjemmipaa.Ex

namespace Go.Proofs.Ytbdcblpjemmipaa.Ex
open Go.Proofs Go.Proofs.Ytbdcblpjemmipaa
set_option maxRecDepth 100000
set_option maxHeartbeats 2000000
set_option linter.unusedVariables false
set_option linter.unusedSimpArgs false
end Go.Proofs.Ytbdcblpjemmipaa.Ex

namespace Go.Proofs.Ytbdcblpjemmipaa.Ex
open Go.Proofs Go.Proofs.Ytbdcblpjemmipaa
set_option maxRecDepth 100000
set_option maxHeartbeats 2000000
set_option linter.unusedVariables false
set_option linter.unusedSimpArgs false
end Go.Proofs.Ytbdcblpjemmipaa.Ex

namespace Go.Proofs.Ytbdcblpjemmipaa.Ex
open Go.Proofs Go.Proofs.Ytbdcblpjemmipaa
set_option maxRecDepth 100000
set_option maxHeartbeats 2000000
set_option linter.unusedVariables false
set_option linter.unusedSimpArgs false
end Go.Proofs.Ytbdcblpjemmipaa.Ex

namespace Go.Proofs.Ytbdcblpjemmipaa.Ex
open Go.Proofs Go.Proofs.Ytbdcblpjemmipaa
set_option maxRecDepth 100000
set_option maxHeartbeats 2000000
set_option linter.unusedVariables false
set_option linter.unusedSimpArgs false
end Go.Proofs.Ytbdcblpjemmipaa.Ex

namespace Go.Proofs.Ytbdcblpjemmipaa.Ex
open Go.Proofs Go.Proofs.Ytbdcblpjemmipaa
set_option maxRecDepth 100000
set_option maxHeartbeats 2000000
set_option linter.unusedVariables false
set_option linter.unusedSimpArgs false
end Go.Proofs.Ytbdcblpjemmipaa.Ex

namespace Go.Proofs.Ytbdcblpjemmipaa.Ex
open Go.Proofs Go.Proofs.Ytbdcblpjemmipaa
set_option maxRecDepth 100000
set_option maxHeartbeats 2000000
set_option linter.unusedVariables false
set_option linter.unusedSimpArgs false
def ash_ref2_Leq : List Sh := [.dat tI, .dat tI]
noncomputable def sp_ref2_Leq : Nat → Option (List AV → Prog AV)
  | 49 => some (con_ref2_Empty)
  | _ => none
theorem hsp_ref2_Leq : ∀ g p, sp_ref2_Leq g = some p → SoundA Try.prog g p := by
  intro g p h
  unfold sp_ref2_Leq at h
  split at h
  · cases h; exact snd_ref2_Empty
  · cases h
noncomputable def cx_ref2_Leq : Ctx := { tab := tab, spec := sp_ref2_Leq, inl := inl, lps := fun _ _ => none, fuel := 40 }
theorem in_ref2_Leq : InlOk Try.prog cx_ref2_Leq := ⟨inl_ok, fun _ _ _ _ _ _ _ _ h => nomatch h⟩
theorem cal_ref2_Leq (g : Nat) : SoundA Try.prog g (evF cx_ref2_Leq keeps 8 g) := evF_sound (tabOk_of tab_ok) (cmpsOk_of tab_ok cmps_ok) mixed in_ref2_Leq hsp_ref2_Leq keeps 8 g
noncomputable def g_ref2_Leq (a0 : I) (a1 : I) : Option Bool :=
  bif decide (a0.1 > a0.2) then some true else bif decide (a0.1 ≥ a1.1) then some (decide (a0.2 ≤ a1.2)) else some false
theorem raw_ref2_Leq (a0 : I) (a1 : I) : evGX cx_ref2_Leq keeps 8 16 ash_ref2_Leq (.dat .bool) ((a0, a1, ()) : (I × (I × Unit))) = g_ref2_Leq a0 a1 := by kernel_rfl
noncomputable def G_ref2_Leq (x : (I × (I × Unit))) : Option Bool := g_ref2_Leq x.1 x.2.1
noncomputable def con_ref2_Leq : List AV → Prog AV := conP true ash_ref2_Leq (.dat .bool) G_ref2_Leq
theorem snd_ref2_Leq : SoundA Try.prog 16 con_ref2_Leq := conP_sound (cal_ref2_Leq 16) true (by rfl) (by rfl) (fun x r e => (evGX_eq _ _ _ _ _ _ _).trans ((raw_ref2_Leq x.1 x.2.1).trans e)) (.inl rfl)
end Go.Proofs.Ytbdcblpjemmipaa.Ex

namespace Go.Proofs.Ytbdcblpjemmipaa.Ex
set_option maxRecDepth 100000
set_option linter.unusedVariables false
set_option linter.unusedSimpArgs false
theorem rangeO_inl {σ α Y : Type} {f : Nat → σ → α → Option (σ ⊕ Y)} {fin : σ → Option Y} {i : Nat} {d : α} {r : List α} {s s' : σ} (h : f i s d = some (.inl s')) : rangeO f fin i (d :: r) s = rangeO f fin (i + 1) r s' := by
  rw [rangeO, h]
theorem n_itv_Leq (x y : I) : g_itv_Leq x y = some (leqB x y) := by
  unfold g_itv_Leq leqB empB
  cases decide (x.1 > x.2)
  · cases decide (x.1 ≥ y.1) <;> rfl
  · rfl
theorem n_ref2_Leq (x y : I) : g_ref2_Leq x y = some (leqB x y) := n_itv_Leq x y
theorem n_ref2_Join (x y : I) : g_ref2_Join x y = some (rJoin x y) := by
  unfold g_ref2_Join rJoin empB
  simp only [cond_eq_ite, mn_def, mx_def]
  (repeat' split) <;> simp_all
theorem joins_go (b0 b01 : Int) (L : List I) : ∀ (l : List I) (i : Nat) (a : I), rangeO (fun i s d => bd_itv_Join_55_0_0 b0 b01 L i s.1 s.2 d) (fun s => fn_itv_Join_55_0_0 b0 b01 L s.1 s.2) i l a =
    some (b0, b01, (l.foldl (fun a d => if empB d then a else if empB a then d else (mn a.1 d.1, mx a.2 d.2)) a).1, (l.foldl (fun a d => if empB d then a else if empB a then d else (mn a.1 d.1, mx a.2 d.2)) a).2)
  | [], i, a => rfl
  | d :: r, i, a => by
    have h : bd_itv_Join_55_0_0 b0 b01 L i a.1 a.2 d = some (.inl (if empB d then a else if empB a then d else (mn a.1 d.1, mx a.2 d.2))) := by
      unfold bd_itv_Join_55_0_0 empB
      simp only [cond_eq_ite, mn_def, mx_def]
      (repeat' split) <;> simp_all
    rw [rangeO]
    simp only [h]
    exact joins_go b0 b01 L r (i + 1) _
theorem n_itv_Join (l : List I) (hl : l.length < 9223372036854775807) : g_itv_Join l = some (l.foldl (fun a d => if empB d then a else if empB a then d else (mn a.1 d.1, mx a.2 d.2)) nn) := by
  unfold g_itv_Join
  have := rg_itv_Join_55_0_0 0 0 l nn hl
  have e : L_itv_Join_55_0_0 (l, (l.length : Int), 0, 0, 0, 1, 0) = _ := this
  rw [e]
  unfold rv_itv_Join_55_0_0
  rw [joins_go 0 0 l l 0 nn]
  rfl
theorem n_itv_Join2 (x y : I) : g_itv_Join [x, y] = some (iJoin x y) := by
  rw [n_itv_Join [x, y] (by simp)]
  simp only [List.foldl_cons, List.foldl_nil]
  have hn : empB nn = true := rfl
  unfold iJoin
  cases hx : empB x <;> cases hy : empB y <;> simp [hn, hx, hy]
theorem n_num_Fits1 (n : Int) : g_num_Fits [n] = some (fitB n) := by
  unfold g_num_Fits
  have e : L_num_Fits_98_0_0 ([n], 1, 0) = _ := rg_num_Fits_98_0_0 [n] () (by simp)
  have e2 : (([n].length : Nat) : Int) = 1 := rfl
  rw [e2, e]
  unfold rv_num_Fits_98_0_0 fitB
  simp only [rangeO, bd_num_Fits_98_0_0, fn_num_Fits_98_0_0]
  by_cases h1 : n < -2147483648
  · rw [decide_eq_true h1, decide_eq_false (show ¬ n ≥ -2147483648 by omega)]; rfl
  · by_cases h2 : n > 2147483647
    · rw [decide_eq_false h1, decide_eq_true h2, decide_eq_true (show n ≥ -2147483648 by omega), decide_eq_false (show ¬ n ≤ 2147483647 by omega)]; rfl
    · rw [decide_eq_false h1, decide_eq_false h2, decide_eq_true (show n ≥ -2147483648 by omega), decide_eq_true (show n ≤ 2147483647 by omega)]; rfl
end Go.Proofs.Ytbdcblpjemmipaa.Ex

namespace Go.Proofs.Ytbdcblpjemmipaa.Ex
set_option maxRecDepth 100000
set_option linter.unusedVariables false
set_option linter.unusedSimpArgs false
def bitV (m : Int) : Int := if 0 ≤ m ∧ m < 31 then ((2 ^ m.toNat : Nat) : Int) else 0
theorem one_bit (m : Int) (h : 0 ≤ m ∧ m < 31) : IntKind.i64.wrap (1 * 2 ^ Min.min (Int.toNat m) IntKind.i64.bits) = ((2 ^ m.toNat : Nat) : Int) := by
  obtain ⟨n, rfl⟩ : ∃ n : Nat, m = n := ⟨m.toNat, by omega⟩
  have hn : n < 31 := by omega
  have : ((List.range 31).all fun n => IntKind.i64.wrap (1 * 2 ^ Min.min (Int.toNat (n : Int)) IntKind.i64.bits) == ((2 ^ (n : Int).toNat : Nat) : Int)) = true := by kernel_rfl
  exact beq_iff_eq.1 (List.all_eq_true.1 this n (List.mem_range.2 hn))
theorem ofInt_nat (n : Nat) (h : n < 18446744073709551616) : (BitVec.ofInt IntKind.i64.bits (n : Int)).toNat = n := by
  show (BitVec.ofInt 64 (n : Int)).toNat = n
  rw [BitVec.toNat_ofInt]; omega
theorem wrap_nat (n : Nat) (h : n < 9223372036854775808) : IntKind.i64.wrap (n : Int) = (n : Int) := wrap_fits (by omega) (by omega)
theorem and64 {a b : Nat} (ha : a < 9223372036854775808) (hb : b < 9223372036854775808) : IntKind.i64.wrap ((BitVec.ofInt IntKind.i64.bits (a : Int) &&& BitVec.ofInt IntKind.i64.bits (b : Int)).toNat : Int) = ((a &&& b : Nat) : Int) := by
  rw [BitVec.toNat_and, ofInt_nat a (by omega), ofInt_nat b (by omega)]
  exact wrap_nat _ (Nat.lt_of_le_of_lt Nat.and_le_left ha)
theorem or64 {a b : Nat} (ha : a < 4611686018427387904) (hb : b < 4611686018427387904) : IntKind.i64.wrap ((BitVec.ofInt IntKind.i64.bits (a : Int) ||| BitVec.ofInt IntKind.i64.bits (b : Int)).toNat : Int) = ((a ||| b : Nat) : Int) := by
  rw [BitVec.toNat_or, ofInt_nat a (by omega), ofInt_nat b (by omega)]
  refine wrap_nat _ (Nat.lt_of_lt_of_le (Nat.or_lt_two_pow (n := 62) ha hb) (by decide))
def tb (s m : Int) : Bool := decide (0 ≤ m) && decide (m < 31) && s.toNat.testBit m.toNat
theorem and_pow (n k : Nat) : (n &&& 2 ^ k != 0) = n.testBit k := by
  cases h : n.testBit k
  · have : n &&& 2 ^ k = 0 := Nat.eq_of_testBit_eq fun i => by
      rw [Nat.testBit_and, Nat.testBit_two_pow, Nat.zero_testBit]
      by_cases e : k = i
      · subst e; rw [h]; rfl
      · simp [e]
    rw [this]; rfl
  · rw [bne_iff_ne]
    intro e
    have : (n &&& 2 ^ k).testBit k = true := by rw [Nat.testBit_and, h, Nat.testBit_two_pow_self]; rfl
    rw [e, Nat.zero_testBit] at this
    cases this
theorem bits_one (m : Int) : g_held_bits [m] = some (bitV m) := by
  unfold g_held_bits
  have e : L_held_bits_91_0_0 (0, [m], (([m] : List Int).length : Int), 0) = _ := rg_held_bits_91_0_0 [m] 0 (by simp)
  rw [e]
  unfold rv_held_bits_91_0_0 bitV
  simp only [rangeO, bd_held_bits_91_0_0, fn_held_bits_91_0_0]
  by_cases h1 : m ≥ 0
  · by_cases h2 : m < 31
    · rw [decide_eq_true h1, decide_eq_true h2, decide_eq_false (show ¬ m < 0 by omega), one_bit m ⟨h1, h2⟩, if_pos ⟨h1, h2⟩]
      simp only [cond_true, cond_false]
      have := or64 (a := 0) (b := 2 ^ m.toNat) (by decide) (Nat.lt_of_lt_of_le (Nat.pow_lt_pow_right (by decide) (show m.toNat < 31 by omega)) (by decide))
      rw [show ((0 : Nat) : Int) = 0 from rfl] at this
      rw [this, Nat.zero_or]
      rfl
    · rw [decide_eq_true h1, decide_eq_false h2, if_neg (by omega)]; rfl
  · rw [decide_eq_false h1, if_neg (by omega)]; rfl
theorem bitV_nat (m : Int) : ∃ k : Nat, bitV m = k ∧ k < 2147483648 ∧ ∀ n : Nat, (n &&& k != 0) = (decide (0 ≤ m) && decide (m < 31) && n.testBit m.toNat) := by
  unfold bitV
  by_cases h : 0 ≤ m ∧ m < 31
  · rw [if_pos h]
    refine ⟨2 ^ m.toNat, rfl, Nat.lt_of_lt_of_le (Nat.pow_lt_pow_right (by decide) (show m.toNat < 31 by omega)) (by decide), fun n => ?_⟩
    rw [decide_eq_true h.1, decide_eq_true h.2, and_pow]; rfl
  · rw [if_neg h]
    refine ⟨0, rfl, by decide, fun n => ?_⟩
    rw [Nat.and_zero]
    by_cases h1 : 0 ≤ m
    · rw [decide_eq_true h1, decide_eq_false (show ¬ m < 31 by omega)]; rfl
    · rw [decide_eq_false h1]; rfl
theorem n_held_Has (s m : Int) (hs : 0 ≤ s ∧ s < 9223372036854775808) : g_held_Has s m = some (tb s m) := by
  obtain ⟨n, rfl⟩ : ∃ n : Nat, s = n := ⟨s.toNat, by omega⟩
  obtain ⟨k, h1, h2, h3⟩ := bitV_nat m
  unfold g_held_Has G_held_bits tb
  simp only [bits_one, optC_some, h1]
  rw [and64 (by omega) (by omega), Int.toNat_natCast, ← h3 n]
  congr 1
  rw [Bool.eq_iff_iff]
  simp only [bne_iff_ne]
  omega
theorem n_ref3_Has (s m : Int) (hs : 0 ≤ s ∧ s < 2147483648) : g_ref3_Has s m = some (tb s m) := by
  obtain ⟨n, rfl⟩ : ∃ n : Nat, s = n := ⟨s.toNat, by omega⟩
  unfold g_ref3_Has tb
  by_cases h1 : m ≥ 0
  case neg => rw [decide_eq_false h1]; rfl
  by_cases h2 : m ≤ 30
  case neg => rw [decide_eq_true h1, decide_eq_false h2, decide_eq_false (show ¬ m < 31 by omega)]; rfl
  obtain ⟨k, rfl⟩ : ∃ k : Nat, m = k := ⟨m.toNat, by omega⟩
  have hk : k < 31 := by omega
  have e1 : ((List.range 31).all fun k => decide (IntKind.u64.wrap (k : Int) = (k : Int)) && decide (Min.min k IntKind.i64.bits = k)) = true := by kernel_rfl
  have e2 := List.all_eq_true.1 e1 k (List.mem_range.2 hk)
  simp only [Bool.and_eq_true, decide_eq_true_eq] at e2
  rw [decide_eq_true h1, decide_eq_true h2, e2.1, decide_eq_false (show ¬ (k : Int) < 0 by omega), decide_eq_true (show (k : Int) < 31 by omega)]
  simp only [cond_true, cond_false, Int.toNat_natCast, e2.2, Bool.true_and]
  have e3 : ((n : Int).fdiv (2 ^ k)) = ((n / 2 ^ k : Nat) : Int) := by
    rw [show ((2 : Int) ^ k) = ((2 ^ k : Nat) : Int) by push_cast; rfl]
    rw [Int.fdiv_eq_ediv_of_nonneg _ (Int.natCast_nonneg _)]
    exact (Int.natCast_ediv n (2 ^ k)).symm
  have hlt : n / 2 ^ k < 2147483648 := Nat.lt_of_le_of_lt (Nat.div_le_self _ _) (by omega)
  have e4 := and64 (a := n / 2 ^ k) (b := 1) (by omega) (by decide)
  rw [e3, show ((1 : Nat) : Int) = 1 from rfl] at *
  rw [e4]
  congr 1
  rw [Bool.eq_iff_iff, Nat.and_one_is_mod, Nat.testBit_eq_decide_div_mod_eq]
  simp only [beq_iff_eq, decide_eq_true_eq]
  omega
def apI (a b : Int) : Bool := a.toNat &&& b.toNat == 0
theorem list_go (s : Int) (hs : 0 ≤ s ∧ s < 9223372036854775808) : ∀ (k m : Nat) (acc : List Int), m + k = 31 → acc.length ≤ m →
    ∃ r, iterO (fun x => st_held_List_122_0_0 x.1 x.2.1 x.2.2) (k + 1) (s, (m : Int), acc) = some r ∧ (r.length = 0 ↔ acc.length = 0 ∧ ∀ i : Nat, m ≤ i → i < 31 → tb s (i : Int) = false)
  | 0, m, acc, h, ha => by
    refine ⟨acc, ?_, ⟨fun k => ⟨k, fun i h1 h2 => by omega⟩, fun k => k.1⟩⟩
    rw [iterO]
    simp only [st_held_List_122_0_0]
    rw [decide_eq_false (show ¬ (m : Int) < 31 by omega)]
    rfl
  | k + 1, m, acc, h, ha => by
    rw [iterO]
    simp only [st_held_List_122_0_0]
    rw [decide_eq_true (show (m : Int) < 31 by omega), wrap_next (show m < 31 by omega) (by decide)]
    simp only [G_held_Has, n_held_Has s m hs, optC_some, cond_true]
    cases hb : tb s (m : Int)
    · obtain ⟨r, e, q⟩ := list_go s hs k (m + 1) acc (by omega) (by omega)
      refine ⟨r, e, q.trans ⟨fun z => ⟨z.1, fun i h1 h2 => ?_⟩, fun z => ⟨z.1, fun i h1 h2 => z.2 i (by omega) h2⟩⟩⟩
      by_cases hi : i = m
      · subst hi; exact hb
      · exact z.2 i (by omega) h2
    · obtain ⟨r, e, q⟩ := list_go s hs k (m + 1) (acc ++ [(m : Int)]) (by omega) (by simp; omega)
      refine ⟨r, ?_, q.trans ⟨fun z => by simp at z, fun z => ?_⟩⟩
      · simp only [cond_true]
        rw [decide_eq_true (show (acc.length + [(m : Int)].length + 1) * 8 ≤ lim by simp only [List.length_singleton]; unfold lim; omega)]
        exact e
      · have := z.2 m (Nat.le_refl _) (by omega)
        rw [hb] at this; cases this
theorem zero_of_bits {n : Nat} (h : n < 2147483648) (hb : ∀ i, i < 31 → n.testBit i = false) : n = 0 := Nat.eq_of_testBit_eq fun i => by
  rw [Nat.zero_testBit]
  by_cases hi : i < 31
  · exact hb i hi
  · exact Nat.testBit_lt_two_pow (Nat.lt_of_lt_of_le h (Nat.le_trans (by decide : 2147483648 ≤ 2 ^ 31) (Nat.pow_le_pow_right (by decide) (by omega))))
theorem n_held_Apart (a b : Int) (ha : 0 ≤ a ∧ a < 2147483648) (hb : 0 ≤ b ∧ b < 2147483648) : g_held_Apart a b = some (apI a b) := by
  obtain ⟨x, rfl⟩ : ∃ n : Nat, a = n := ⟨a.toNat, by omega⟩
  obtain ⟨y, rfl⟩ : ∃ n : Nat, b = n := ⟨b.toNat, by omega⟩
  unfold g_held_Apart apI G_held_List g_held_List L_held_List_122_0_0
  rw [and64 (by omega) (by omega)]
  have hlt : x &&& y < 2147483648 := Nat.lt_of_le_of_lt Nat.and_le_left (by omega)
  obtain ⟨r, e, q⟩ := list_go ((x &&& y : Nat) : Int) (by omega) 31 0 [] (by decide) (by decide)
  have e2 := iterO_mono (31 + 1) FUEL _ _ (by decide) e
  have e3 : iterO (fun x => st_held_List_122_0_0 x.1 x.2.1 x.2.2) FUEL ((((x &&& y : Nat) : Int), 0, []) : Int × Int × List Int) = some r := e2
  simp only [e3, optC_some, Int.toNat_natCast]
  congr 1
  rw [Bool.eq_iff_iff]
  simp only [beq_iff_eq]
  constructor
  · intro h
    have := (q.1 (by omega)).2
    refine zero_of_bits hlt fun i hi => ?_
    have k := this i (Nat.zero_le _) hi
    unfold tb at k
    rw [decide_eq_true (show (0 : Int) ≤ (i : Int) by omega), decide_eq_true (show (i : Int) < 31 by omega)] at k
    simpa using k
  · intro h
    have := q.2 ⟨rfl, fun i _ _ => by unfold tb; rw [h]; simp⟩
    omega
theorem n_ref3_Apart (a b : Int) (ha : 0 ≤ a ∧ a < 2147483648) (hb : 0 ≤ b ∧ b < 2147483648) : g_ref3_Apart a b = some (apI a b) := by
  obtain ⟨x, rfl⟩ : ∃ n : Nat, a = n := ⟨a.toNat, by omega⟩
  obtain ⟨y, rfl⟩ : ∃ n : Nat, b = n := ⟨b.toNat, by omega⟩
  have hlt : x &&& y < 2147483648 := Nat.lt_of_le_of_lt Nat.and_le_left (by omega)
  unfold g_ref3_Apart apI
  rw [and64 (by omega) (by omega)]
  have := and64 (a := x &&& y) (b := 2147483647) (by omega) (by decide)
  rw [show ((2147483647 : Nat) : Int) = 2147483647 from rfl] at this
  rw [this]
  have e : (x &&& y) &&& 2147483647 = x &&& y := by
    rw [show 2147483647 = 2 ^ 31 - 1 from rfl, Nat.and_two_pow_sub_one_of_lt_two_pow (by omega)]
  rw [e]
  congr 1
  rw [Bool.eq_iff_iff]
  simp only [beq_iff_eq, Int.toNat_natCast]
  omega
end Go.Proofs.Ytbdcblpjemmipaa.Ex

namespace Go.Proofs.Ytbdcblpjemmipaa.Ex
set_option maxRecDepth 100000
set_option linter.unusedVariables false
set_option linter.unusedSimpArgs false
def seesB (t : Int) (ar : Bool) (g h : Int) (e : En) : Bool := e.1 != t && (e.2.1 == ar && (e.2.2.1 == g && apI e.2.2.2.1 h))
def seenS (p : En → Bool) (v : I) (l : List En) : I := l.foldl (fun v e => if p e then iJoin v e.2.2.2.2 else v) v
def seenV (l : List En) (t : Int) (ar : Bool) (g h : Int) : I := seenS (seesB t ar g h) nn l
def gainV (l : List En) (t : Int) (ar : Bool) (g h m : Int) : I := seenS (fun e => seesB t ar g h e && tb e.2.2.2.1 m) nn l
theorem seen_go (t : Int) (ar : Bool) (g h : Int) (hh : 0 ≤ h ∧ h < 2147483648) (b0 b01 b1 b11 : Int) (L : List En) : ∀ (l : List En) (i : Nat) (v : I), (∀ e ∈ l, entOK e) →
    rangeO (fun i s d => bd_tab_Seen_45_0_0 t ar g h b0 b01 b1 b11 L i s.1 s.2 d) (fun s => fn_tab_Seen_45_0_0 t ar g h b0 b01 b1 b11 L s.1 s.2) i l v = some (b0, b01, b1, b11, (seenS (seesB t ar g h) v l).1, (seenS (seesB t ar g h) v l).2)
  | [], i, v, _ => rfl
  | d :: r, i, v, he => by
    have ed := he d (by simp)
    have h1 : bd_tab_Seen_45_0_0 t ar g h b0 b01 b1 b11 L i v.1 v.2 d = some (.inl (if seesB t ar g h d then iJoin v d.2.2.2.2 else v)) := by
      unfold bd_tab_Seen_45_0_0 seesB
      simp only [G_held_Apart, n_held_Apart _ _ ed.h hh, G_itv_Join, n_itv_Join2, optC_some]
      cases d.1 != t <;> cases d.2.1 == ar <;> cases d.2.2.1 == g <;> cases apI d.2.2.2.1 h <;> rfl
    rw [rangeO]
    simp only [h1]
    exact seen_go t ar g h hh b0 b01 b1 b11 L r (i + 1) _ fun e k => he e (List.mem_cons_of_mem _ k)
theorem n_tab_Seen (l : List En) (t : Int) (ar : Bool) (g h : Int) (hh : 0 ≤ h ∧ h < 2147483648) (he : ∀ e ∈ l, entOK e) (hl : l.length < 9223372036854775807) : g_tab_Seen l t ar g h = some (seenV l t ar g h) := by
  unfold g_tab_Seen
  have e : L_tab_Seen_45_0_0 (t, ar, g, h, l, (l.length : Int), 0, 0, 0, 0, 0, 1, 0) = _ := rg_tab_Seen_45_0_0 t ar g h 0 0 0 0 l nn hl
  rw [e]
  unfold rv_tab_Seen_45_0_0
  rw [seen_go t ar g h hh 0 0 0 0 l l 0 nn he]
  rfl
theorem rseen_go (t : Int) (ar : Bool) (g h : Int) (hh : 0 ≤ h ∧ h < 2147483648) (b0 b01 : Int) (L : List En) : ∀ (l : List En) (i : Nat) (v : I), (∀ e ∈ l, entOK e) →
    rangeO (fun i s d => bd_ref12_Seen_28_0_0 t ar g h b0 b01 L i s.1 s.2 d) (fun s => fn_ref12_Seen_28_0_0 t ar g h b0 b01 L s.1 s.2) i l v = some (b0, b01, (seenS (seesB t ar g h) v l).1, (seenS (seesB t ar g h) v l).2)
  | [], i, v, _ => rfl
  | d :: r, i, v, he => by
    have ed := he d (by simp)
    have ha := n_ref3_Apart _ _ ed.h hh
    unfold g_ref3_Apart at ha
    have ha := Option.some.inj ha
    have h1 : bd_ref12_Seen_28_0_0 t ar g h b0 b01 L i v.1 v.2 d = some (.inl (if seesB t ar g h d then iJoin v d.2.2.2.2 else v)) := by
      unfold bd_ref12_Seen_28_0_0 seesB
      rw [ha, join_eq ed.v]
      simp only [G_ref2_Join, n_ref2_Join, optC_some]
      cases d.1 != t <;> cases d.2.1 == ar <;> cases d.2.2.1 == g <;> cases apI d.2.2.2.1 h <;> rfl
    rw [rangeO]
    simp only [h1]
    exact rseen_go t ar g h hh b0 b01 L r (i + 1) _ fun e k => he e (List.mem_cons_of_mem _ k)
theorem n_ref12_Seen (l : List En) (t : Int) (ar : Bool) (g h : Int) (hh : 0 ≤ h ∧ h < 2147483648) (he : ∀ e ∈ l, entOK e) (hl : l.length < 9223372036854775807) : g_ref12_Seen l t ar g h = some (seenV l t ar g h) := by
  unfold g_ref12_Seen
  have e : L_ref12_Seen_28_0_0 (l, t, ar, g, h, 0, 0, 0, 1, 0) = _ := rg_ref12_Seen_28_0_0 t ar g h 0 0 l nn hl
  rw [e]
  unfold rv_ref12_Seen_28_0_0
  rw [rseen_go t ar g h hh 0 0 l l 0 nn he]
  rfl
theorem gain_go (t : Int) (ar : Bool) (g h m : Int) (hh : 0 ≤ h ∧ h < 2147483648) (b1 b11 b2 b21 : Int) (L : List En) : ∀ (l : List En) (i : Nat) (v : I), (∀ e ∈ l, entOK e) →
    rangeO (fun i s d => bd_tab_Gained_45_0_0 t ar g h b1 b11 m b2 b21 L i s.1 s.2 d) (fun s => fn_tab_Gained_45_0_0 t ar g h b1 b11 m b2 b21 L s.1 s.2) i l v =
      some (b1, b11, m, b2, b21, (seenS (fun e => seesB t ar g h e && tb e.2.2.2.1 m) v l).1, (seenS (fun e => seesB t ar g h e && tb e.2.2.2.1 m) v l).2)
  | [], i, v, _ => rfl
  | d :: r, i, v, he => by
    have ed := he d (by simp)
    have h1 : bd_tab_Gained_45_0_0 t ar g h b1 b11 m b2 b21 L i v.1 v.2 d = some (.inl (if seesB t ar g h d && tb d.2.2.2.1 m then iJoin v d.2.2.2.2 else v)) := by
      unfold bd_tab_Gained_45_0_0 seesB
      simp only [G_held_Apart, n_held_Apart _ _ ed.h hh, G_held_Has, n_held_Has d.2.2.2.1 m ⟨ed.h.1, by have := ed.h.2; omega⟩, G_itv_Join, n_itv_Join2, optC_some]
      cases d.1 != t <;> cases d.2.1 == ar <;> cases d.2.2.1 == g <;> cases apI d.2.2.2.1 h <;> cases tb d.2.2.2.1 m <;> rfl
    rw [rangeO]
    simp only [h1]
    exact gain_go t ar g h m hh b1 b11 b2 b21 L r (i + 1) _ fun e k => he e (List.mem_cons_of_mem _ k)
theorem n_tab_Gained (l : List En) (t : Int) (ar : Bool) (g h m : Int) (hh : 0 ≤ h ∧ h < 2147483648) (he : ∀ e ∈ l, entOK e) (hl : l.length < 9223372036854775807) : g_tab_Gained l t ar g h m = some (gainV l t ar g h m) := by
  unfold g_tab_Gained
  have e : L_tab_Gained_45_0_0 (t, ar, g, h, l, (l.length : Int), 0, 0, 0, m, 0, 0, 1, 0) = _ := rg_tab_Gained_45_0_0 t ar g h 0 0 m 0 0 l nn hl
  rw [e]
  unfold rv_tab_Gained_45_0_0
  rw [gain_go t ar g h m hh 0 0 0 0 l l 0 nn he]
  rfl
theorem filt_go (t : Int) (ar : Bool) (g h m b0 b01 : Int) (L : List En) : ∀ (l : List En) (i : Nat) (o : List En), (∀ e ∈ l, entOK e) → o.length + l.length < 1000000000000 →
    rangeO (fun i s d => bd_ref12_Gained_29_0_0 t ar g h m b0 b01 L i s d) (fun s => fn_ref12_Gained_29_0_0 t ar g h m b0 b01 L s) i l o = some (t, ar, g, h, b0, b01, o ++ l.filter fun e => tb e.2.2.2.1 m)
  | [], i, o, _, _ => by simp only [rangeO, List.filter_nil, List.append_nil]; rfl
  | d :: r, i, o, he, hn => by
    have ed := he d (by simp)
    simp only [List.length_cons] at hn
    have h1 : bd_ref12_Gained_29_0_0 t ar g h m b0 b01 L i o d = some (.inl (if tb d.2.2.2.1 m then o ++ [d] else o)) := by
      unfold bd_ref12_Gained_29_0_0
      simp only [G_ref3_Has, n_ref3_Has d.2.2.2.1 m ed.h, optC_some]
      rw [decide_eq_true (show (o.length + [d].length + 1) * 48 ≤ lim by simp only [List.length_singleton]; unfold lim; omega)]
      cases tb d.2.2.2.1 m <;> rfl
    rw [rangeO]
    simp only [h1]
    rw [filt_go t ar g h m b0 b01 L r (i + 1) _ (fun e k => he e (List.mem_cons_of_mem _ k)) (by split <;> (try simp only [List.length_append, List.length_singleton]) <;> omega)]
    cases hb : tb d.2.2.2.1 m
    · simp [hb]
    · simp [hb]
theorem seenS_filter (p q : En → Bool) : ∀ (l : List En) (v : I), seenS p v (l.filter q) = seenS (fun e => p e && q e) v l
  | [], _ => rfl
  | d :: r, v => by
    unfold seenS
    cases hq : q d
    · rw [List.filter_cons_of_neg (by simp [hq]), List.foldl_cons]
      simp only [hq, Bool.and_false, Bool.false_eq_true, if_false]
      exact seenS_filter p q r v
    · rw [List.filter_cons_of_pos hq, List.foldl_cons, List.foldl_cons]
      simp only [hq, Bool.and_true]
      exact seenS_filter p q r _
theorem n_ref12_Gained (l : List En) (t : Int) (ar : Bool) (g h m : Int) (hh : 0 ≤ h ∧ h < 2147483648) (he : ∀ e ∈ l, entOK e) (hl : l.length < 1000000000000) : g_ref12_Gained l t ar g h m = some (gainV l t ar g h m) := by
  unfold g_ref12_Gained
  have e : L_ref12_Gained_29_0_0 (l, t, ar, g, h, m, 0, 0, 0, []) = _ := rg_ref12_Gained_29_0_0 t ar g h m 0 0 l [] (by omega)
  rw [e]
  unfold rv_ref12_Gained_29_0_0
  rw [filt_go t ar g h m 0 0 l l 0 [] he (by simpa using hl)]
  simp only [optC_some, List.nil_append, G_ref12_Seen]
  rw [n_ref12_Seen _ t ar g h hh (fun e k => he e (List.mem_filter.1 k).1) (Nat.lt_of_le_of_lt (List.length_filter_le ..) (by omega))]
  simp only [optC_some]
  unfold seenV gainV
  rw [seenS_filter]
end Go.Proofs.Ytbdcblpjemmipaa.Ex

namespace Go.Proofs.Ytbdcblpjemmipaa.Ex
open Go.Proofs Go.Proofs.Ytbdcblpjemmipaa
set_option maxRecDepth 100000
set_option maxHeartbeats 2000000
set_option linter.unusedVariables false
set_option linter.unusedSimpArgs false
end Go.Proofs.Ytbdcblpjemmipaa.Ex

namespace Go.Proofs.Ytbdcblpjemmipaa.Ex
open Go.Proofs Go.Proofs.Ytbdcblpjemmipaa
set_option maxRecDepth 100000
set_option maxHeartbeats 2000000
set_option linter.unusedVariables false
set_option linter.unusedSimpArgs false
end Go.Proofs.Ytbdcblpjemmipaa.Ex

namespace Go.Proofs.Ytbdcblpjemmipaa.Ex
open Go.Proofs Go.Proofs.Ytbdcblpjemmipaa
set_option maxRecDepth 100000
set_option maxHeartbeats 2000000
set_option linter.unusedVariables false
set_option linter.unusedSimpArgs false
abbrev fn_126_0 := (fun (d : (((List En) × ((List En) × (Int × Unit))) × Unit)) => ((d.1.1, d.1.2.1, d.1.2.2.1) : ((List En) × (List En) × Int)))
def ash_ref12_Same : List Sh := [.dat (.sl tEn), .dat (.sl tEn)]
def kp_ref12_Same_25_0 : Nat → List Nat := fun c => bif c.beq 0 then [0, 1, 5] else [4]
noncomputable def sp_ref12_Same : Nat → Option (List AV → Prog AV)
  | _ => none
theorem hsp_ref12_Same : ∀ g p, sp_ref12_Same g = some p → SoundA Try.prog g p := by
  intro g p h
  unfold sp_ref12_Same at h
  split at h
  · cases h
noncomputable def cx_ref12_Same0 : Ctx := { tab := tab, spec := sp_ref12_Same, inl := inl, lps := fun _ _ => none, fuel := 40 }
theorem in_ref12_Same0 : InlOk Try.prog cx_ref12_Same0 := ⟨inl_ok, fun _ _ _ _ _ _ _ _ h => nomatch h⟩
theorem cal_ref12_Same0 (g : Nat) : SoundA Try.prog g (evF cx_ref12_Same0 keeps 8 g) := evF_sound (tabOk_of tab_ok) (cmpsOk_of tab_ok cmps_ok) mixed in_ref12_Same0 hsp_ref12_Same keeps 8 g
noncomputable def F_ref12_Same_25_0 (base : Nat) : Tm → Prog (Nat × Tm) := evC cx_ref12_Same0 (evF cx_ref12_Same0 keeps 8) ⟨25, 26, keeps 25, base⟩ 0 (bodyX 25 0)
def s_ref12_Same_25_0_0 : StS := ⟨[(0, .sl tEn), (1, .sl tEn), (5, .int .i64)], [], 0⟩
def x_ref12_Same_25_0_0_0 : StS := ⟨[(4, .undef)], [], 0⟩
def x_ref12_Same_25_0_0_1 : StS := ⟨[(4, .bool)], [], 0⟩
noncomputable def st_ref12_Same_25_0_0 (s0 : (List En)) (s1 : (List En)) (s5 : Int) : Option (((List En) × (List En) × Int) ⊕ (Unit ⊕ Bool)) :=
  bif decide (s5 < (↑s0.length : Int)) then
 bif decide (0 ≤ s5) then
 optC s0[s5.toNat]? none fun d5 ↦
 bif decide (0 ≤ s5) then
 optC s1[s5.toNat]? none fun d6 ↦
 bif
 !(d5.1 == d6.1 &&
 (d5.2.1 == d6.2.1 &&
 (d5.2.2.1 == d6.2.2.1 &&
 (d5.2.2.2.1 == d6.2.2.2.1 && (d5.2.2.2.2.1 == d6.2.2.2.2.1 && d5.2.2.2.2.2 == d6.2.2.2.2.2))))) then
 some (Sum.inr (Sum.inr false))
 else some (Sum.inl (s0, s1, Go.IntKind.i64.wrap (s5 + 1)))
 else none
 else none
 else some (Sum.inr (Sum.inl PUnit.unit))
theorem rn_ref12_Same_25_0_0 (s0 : (List En)) (s1 : (List En)) (s5 : Int) : rdX cx_ref12_Same0 keeps 8 ⟨25, 26, keeps 25, 0⟩ 0 (bodyX 25 0) 0 kp_ref12_Same_25_0 (sT s_ref12_Same_25_0_0 ((s0, s1, s5, ()), ())) (sH s_ref12_Same_25_0_0 ((s0, s1, s5, ()), ())) (rdO (fun T h => (rdS s_ref12_Same_25_0_0 T h).map fn_126_0) (getOr (getE 2 x_ref12_Same_25_0_0_0 (fun (d : ((Unit × Unit) × Unit)) => (() : Unit))) (getE 1 x_ref12_Same_25_0_0_1 (fun (d : ((Bool × Unit) × Unit)) => ((d.1.1) : Bool))))) = st_ref12_Same_25_0_0 s0 s1 s5 := by kernel_rfl
noncomputable def L_ref12_Same_25_0_0 (x : ((List En) × (List En) × Int)) : Option (Unit ⊕ Bool) := iterO (fun x => st_ref12_Same_25_0_0 x.1 x.2.1 x.2.2) FUEL x
noncomputable def q_ref12_Same_25_0 : Nat → Tm → Prog (Nat × Tm) := (varP 0 (fun T h => (rdS s_ref12_Same_25_0_0 T h).map fn_126_0) L_ref12_Same_25_0_0 (fun y => .alt y (altE 2 x_ref12_Same_25_0_0_0 (fun (x : Unit) => ((((), ()), ()) : ((Unit × Unit) × Unit)))) (altE 1 x_ref12_Same_25_0_0_1 (fun (x : Bool) => (((x, ()), ()) : ((Bool × Unit) × Unit))))) (fun _ _ => .fail))
theorem ok_ref12_Same_25_0 : VarOk kp_ref12_Same_25_0 F_ref12_Same_25_0 q_ref12_Same_25_0 := (varX_ok (s := s_ref12_Same_25_0_0) (un := (fun (x : ((List En) × (List En) × Int)) => (((x.1, x.2.1, x.2.2, ()), ()) : (((List En) × ((List En) × (Int × Unit))) × Unit)))) (by rfl) (fun _ => rfl) (getOr_ok (getE_ok (s := x_ref12_Same_25_0_0_0) (un := (fun (x : Unit) => ((((), ()), ()) : ((Unit × Unit) × Unit)))) (by rfl) (fun _ => rfl)) (getE_ok (s := x_ref12_Same_25_0_0_1) (un := (fun (x : Bool) => (((x, ()), ()) : ((Bool × Unit) × Unit)))) (by rfl) (fun _ => rfl))) (step := fun x => st_ref12_Same_25_0_0 x.1 x.2.1 x.2.2) (fun x => rn_ref12_Same_25_0_0 x.1 x.2.1 x.2.2) (fun _ _ e => ⟨_, e⟩) (altOr_ok (altE_ok 2 x_ref12_Same_25_0_0_0 (fun (x : Unit) => ((((), ()), ()) : ((Unit × Unit) × Unit)))) (altE_ok 1 x_ref12_Same_25_0_0_1 (fun (x : Bool) => (((x, ()), ()) : ((Bool × Unit) × Unit))))) (VarOk.fail _ _))
noncomputable def lpI_ref12_Same_25_0 (base : Nat) (T : Tm) : Prog (Nat × Tm) := .norm base (kp_ref12_Same_25_0 0) T (q_ref12_Same_25_0 base)
theorem sndI_ref12_Same_25_0 : SoundC Try.prog 26 (.loop (bodyX 25 0)) lpI_ref12_Same_25_0 := loopK_sound (cx := cx_ref12_Same0) (cal := evF cx_ref12_Same0 keeps 8) (kp := keeps 25) (tabOk_of tab_ok) (cmpsOk_of tab_ok cmps_ok) cal_ref12_Same0 mixed (hl_of (g := 25) (b := 0) in_ref12_Same0 (by kernel_rfl) (by kernel_rfl)) ok_ref12_Same_25_0
noncomputable def lpL_ref12_Same_25_0 : Nat → Tm → Prog (Nat × Tm) := lpI_ref12_Same_25_0
theorem sndL_ref12_Same_25_0 : SoundC Try.prog 26 (.loop (bodyX 25 0)) lpL_ref12_Same_25_0 := sndI_ref12_Same_25_0
noncomputable def lp_ref12_Same : Nat → Nat → Option (Nat → Tm → Prog (Nat × Tm))
  | 25, 0 => some lpL_ref12_Same_25_0
  | _, _ => none
noncomputable def cx_ref12_Same : Ctx := { tab := tab, spec := sp_ref12_Same, inl := inl, lps := lp_ref12_Same, fuel := 40 }
theorem in_ref12_Same : InlOk Try.prog cx_ref12_Same := ⟨inl_ok, fun g fn c hg hb q hq p hp => by
  change lp_ref12_Same g q.1 = some p at hp
  change inl g = some fn at hg
  generalize hq1 : q.1 = b at hp
  unfold lp_ref12_Same at hp
  split at hp
  · cases hp; exact lps_case (inl := inl) hg hb hq hq1 (by kernel_rfl) (by kernel_rfl) sndL_ref12_Same_25_0
  · cases hp⟩
theorem cal_ref12_Same (g : Nat) : SoundA Try.prog g (evF cx_ref12_Same keeps 8 g) := evF_sound (tabOk_of tab_ok) (cmpsOk_of tab_ok cmps_ok) mixed in_ref12_Same hsp_ref12_Same keeps 8 g
noncomputable def g_ref12_Same (a0 : (List En)) (a1 : (List En)) : Option Bool :=
  bif (↑a0.length : Int) != (↑a1.length : Int) then some false
 else optC (L_ref12_Same_25_0_0 (a0, a1, 0)) none fun d4 ↦ Sum.elim (fun e5 ↦ some true) (fun e5 ↦ some e5) d4
theorem raw_ref12_Same (a0 : (List En)) (a1 : (List En)) : evGX cx_ref12_Same keeps 8 25 ash_ref12_Same (.dat .bool) ((a0, a1, ()) : ((List En) × ((List En) × Unit))) = g_ref12_Same a0 a1 := by kernel_rfl
noncomputable def G_ref12_Same (x : ((List En) × ((List En) × Unit))) : Option Bool := g_ref12_Same x.1 x.2.1
noncomputable def con_ref12_Same : List AV → Prog AV := conP false ash_ref12_Same (.dat .bool) G_ref12_Same
theorem snd_ref12_Same : SoundA Try.prog 25 con_ref12_Same := conP_sound (cal_ref12_Same 25) false (by rfl) (by rfl) (fun x r e => (evGX_eq _ _ _ _ _ _ _).trans ((raw_ref12_Same x.1 x.2.1).trans e)) (.inr fun _ => rfl)
end Go.Proofs.Ytbdcblpjemmipaa.Ex

namespace Go.Proofs.Ytbdcblpjemmipaa.Ex
open Go.Proofs Go.Proofs.Ytbdcblpjemmipaa
set_option maxRecDepth 100000
set_option maxHeartbeats 2000000
set_option linter.unusedVariables false
set_option linter.unusedSimpArgs false
end Go.Proofs.Ytbdcblpjemmipaa.Ex

namespace Go.Proofs.Ytbdcblpjemmipaa.Ex
set_option maxRecDepth 100000
set_option maxHeartbeats 2000000
set_option linter.unusedVariables false
set_option linter.unusedSimpArgs false
end Go.Proofs.Ytbdcblpjemmipaa.Ex

namespace Go.Proofs.Ytbdcblpjemmipaa.Ex
set_option maxRecDepth 100000
set_option maxHeartbeats 2000000
set_option linter.unusedVariables false
set_option linter.unusedSimpArgs false
end Go.Proofs.Ytbdcblpjemmipaa.Ex

namespace Go.Proofs.Ytbdcblpjemmipaa.Ex
set_option maxRecDepth 100000
set_option maxHeartbeats 2000000
set_option linter.unusedVariables false
set_option linter.unusedSimpArgs false
noncomputable def bd_ref12_Same_25_0_0 (s1 : (List En)) (s0 : (List En)) (i : Nat)  (d : En) : Option (Unit ⊕ (Unit ⊕ Bool)) :=
  optC s1[i]? (none) fun d6 ↦
   bif !(d.1 == d6.1 && (d.2.1 == d6.2.1 && (d.2.2.1 == d6.2.2.1 && (d.2.2.2.1 == d6.2.2.2.1 && (d.2.2.2.2.1 == d6.2.2.2.2.1 && d.2.2.2.2.2 == d6.2.2.2.2.2))))) then
   some (Sum.inr (Sum.inr false))
 else some (Sum.inl ())
noncomputable def fn_ref12_Same_25_0_0 (s1 : (List En)) (s0 : (List En))  : Option (Unit ⊕ Bool) :=
  some (Sum.inl PUnit.unit)
noncomputable abbrev rx_ref12_Same_25_0_0 (s1 : (List En)) (s0 : (List En)) (i : Nat) (s : Unit) : ((List En) × (List En) × Int) := (s0, s1, (i : Int))
noncomputable def rv_ref12_Same_25_0_0 (s1 : (List En)) (s0 : (List En)) (s : Unit) : Option (Unit ⊕ Bool) := rangeO (fun i s d => bd_ref12_Same_25_0_0 s1 s0 i  d) (fun s => fn_ref12_Same_25_0_0 s1 s0 ) 0 s0 s
theorem rg_ref12_Same_25_0_0 (s1 : (List En)) (s0 : (List En)) (s : Unit) (hl : s0.length < 9223372036854775807) : L_ref12_Same_25_0_0 (s0, s1, 0) = rv_ref12_Same_25_0_0 s1 s0 s := by
  unfold L_ref12_Same_25_0_0 rv_ref12_Same_25_0_0
  refine iterO_range0 s0 (rx_ref12_Same_25_0_0 s1 s0) _ _ ?_ ?_ s (by unfold FUEL; omega)
  · intro i s d hi hd
    have e1 : decide ((i : Int) < (s0.length : Int)) = true := decide_eq_true (by omega)
    have e2 : decide (0 ≤ (i : Int)) = true := decide_eq_true (by omega)
    have e3 : Int.toNat (i : Int) = i := Int.toNat_natCast i
    have e4 := wrap_next hi (Nat.le_of_lt hl)
    show st_ref12_Same_25_0_0 (s0) (s1) ((i : Int)) = upd _ (bd_ref12_Same_25_0_0 s1 s0 i  d)
    unfold st_ref12_Same_25_0_0 bd_ref12_Same_25_0_0
    simp only [e1, e2, e3, e4, hd, cond_true, cond_false, optC_some, upd_cond, upd_optC, upd_elim, upd_inl, upd_inr, upd_none]
  · intro s
    have e1 : decide ((s0.length : Int) < (s0.length : Int)) = false := decide_eq_false (by omega)
    show st_ref12_Same_25_0_0 (s0) (s1) ((s0.length : Int)) = _
    unfold st_ref12_Same_25_0_0 fn_ref12_Same_25_0_0
    rw [e1]
    rfl
end Go.Proofs.Ytbdcblpjemmipaa.Ex

namespace Go.Proofs.Ytbdcblpjemmipaa.Ex
open Go.Proofs Go.Proofs.Ytbdcblpjemmipaa
set_option maxRecDepth 100000
set_option maxHeartbeats 2000000
set_option linter.unusedVariables false
set_option linter.unusedSimpArgs false
end Go.Proofs.Ytbdcblpjemmipaa.Ex

namespace Go.Proofs.Ytbdcblpjemmipaa.Ex
open Go.Proofs Go.Proofs.Ytbdcblpjemmipaa
set_option maxRecDepth 100000
set_option maxHeartbeats 2000000
set_option linter.unusedVariables false
set_option linter.unusedSimpArgs false
end Go.Proofs.Ytbdcblpjemmipaa.Ex

namespace Go.Proofs.Ytbdcblpjemmipaa.Ex
open Go.Proofs Go.Proofs.Ytbdcblpjemmipaa
set_option maxRecDepth 100000
set_option maxHeartbeats 2000000
set_option linter.unusedVariables false
set_option linter.unusedSimpArgs false
end Go.Proofs.Ytbdcblpjemmipaa.Ex

namespace Go.Proofs.Ytbdcblpjemmipaa.Ex
open Go.Proofs
set_option maxRecDepth 100000
set_option maxHeartbeats 2000000
set_option linter.unusedVariables false
set_option linter.unusedSimpArgs false
def upto {α : Type} (f : Nat → α → α) (k : Nat) (l : List α) : List α := l.mapIdx fun j d => if j < k then f j d else d
theorem upto_zero {α : Type} (f : Nat → α → α) (l : List α) : upto f 0 l = l := by
  apply List.ext_getElem?
  intro j
  simp [upto]
theorem upto_all {α : Type} (f : Nat → α → α) (l : List α) : upto f l.length l = l.mapIdx f := by
  apply List.ext_getElem?
  intro j
  simp only [upto, List.getElem?_mapIdx]
  cases h : l[j]? with
  | none => rfl
  | some d =>
    have := (List.getElem?_eq_some_iff.1 h).1
    simp [this]
theorem upto_get {α : Type} (f : Nat → α → α) {l : List α} {i : Nat} {d : α} (h : l[i]? = some d) : (upto f i l)[i]? = some d := by
  simp only [upto, List.getElem?_mapIdx, h]
  simp
theorem upto_set {α : Type} (f : Nat → α → α) {l : List α} {i : Nat} {d : α} (h : l[i]? = some d) : (upto f i l).set i (f i d) = upto f (i + 1) l := by
  apply List.ext_getElem?
  intro j
  have hi := (List.getElem?_eq_some_iff.1 h).1
  by_cases e : i = j
  · subst e
    rw [List.getElem?_set_self (by simp [upto]; exact hi)]
    simp only [upto, List.getElem?_mapIdx, h]
    simp
  · rw [List.getElem?_set_ne e]
    simp only [upto, List.getElem?_mapIdx]
    cases l[j]? with
    | none => rfl
    | some x =>
      by_cases k : j < i
      · simp [k, show j < i + 1 by omega]
      · simp [k, show ¬ j < i + 1 by omega]
theorem upto_len {α : Type} (f : Nat → α → α) (k : Nat) (l : List α) : (upto f k l).length = l.length := by simp [upto]
theorem iterO_map {X Y α : Type} {step : X → Option (X ⊕ Y)} (rx : Nat → List α → X) (f : Nat → α → α) (fin : List α → Y) (l : List α)
    (hs : ∀ i d r, l[i]? = some d → r.length = l.length → r[i]? = some d → step (rx i r) = some (.inl (rx (i + 1) (r.set i (f i d)))))
    (he : ∀ r, r.length = l.length → step (rx l.length r) = some (.inr (fin r))) (hl : l.length < 9223372036854775807) : iterO step FUEL (rx 0 l) = some (fin (l.mapIdx f)) := by
  have go : ∀ k i, i + k = l.length → iterO step (k + 1) (rx i (upto f i l)) = some (fin (l.mapIdx f)) := by
    intro k
    induction k with
    | zero =>
      intro i hi
      have : i = l.length := by omega
      subst this
      rw [iterO, he _ (upto_len _ _ _), upto_all]
    | succ k ih =>
      intro i hi
      obtain ⟨d, hd⟩ : ∃ d, l[i]? = some d := ⟨l[i]'(by omega), List.getElem?_eq_getElem _⟩
      rw [iterO, hs i d _ hd (upto_len _ _ _) (upto_get f hd), upto_set f hd]
      exact ih (i + 1) (by omega)
  have := go l.length 0 (by omega)
  rw [upto_zero] at this
  exact iterO_mono _ _ _ _ (by unfold FUEL; omega) this
theorem rangeO_id {α Y : Type} {f : Nat → Unit → α → Option (Unit ⊕ Y)} {fin : Unit → Option Y} : ∀ (l : List α) (i : Nat), (∀ j d, l[j]? = some d → f (i + j) () d = some (.inl ())) → rangeO f fin i l () = fin ()
  | [], _, _ => rfl
  | d :: r, i, h => by
    rw [rangeO_inl (by have := h 0 d rfl; rwa [Nat.add_zero] at this)]
    exact rangeO_id r (i + 1) fun j d hd => by rw [Nat.add_right_comm]; exact h (j + 1) d hd
theorem seen_is {p : En → Bool} : ∀ {l : List En} {v : I}, isB v = true → (∀ e ∈ l, entOK e) → isB (seenS p v l) = true
  | [], v, hv, _ => hv
  | e :: r, v, hv, h => by
    unfold seenS
    rw [List.foldl_cons]
    refine seen_is (l := r) ?_ fun x hx => h x (List.mem_cons_of_mem _ hx)
    have he := (h e (List.mem_cons_self ..)).v
    split
    · rw [join_eq he]; exact rjoin_is hv he
    · exact hv
theorem nn_is : isB nn = true := by decide
theorem gainV_is {l : List En} {t : Int} {ar : Bool} {g h m : Int} (he : ∀ e ∈ l, entOK e) : isB (gainV l t ar g h m) = true := seen_is nn_is he
end Go.Proofs.Ytbdcblpjemmipaa.Ex

namespace Go.Proofs.Ytbdcblpjemmipaa.Ex
open Go.Proofs
set_option maxRecDepth 100000
set_option maxHeartbeats 2000000
set_option linter.unusedVariables false
set_option linter.unusedSimpArgs false
theorem leq_refl (x : I) : leqB x x = true := by rw [leq_iff]; unfold sub; omega
theorem leq_emp {x y : I} (h : empB x = true) : leqB x y = true := by unfold leqB; rw [h]; rfl
theorem ne_leq {x y : I} (h : leqB x y = true) (hx : empB x = false) : sub x y ∧ empB y = false := by
  have := le_of_emp hx
  rw [leq_iff] at h
  unfold sub at *
  refine ⟨by omega, emp_no (by omega)⟩
theorem joinI_le {x y w : I} (h : leqB x w = true) (k : leqB y w = true) : leqB (iJoin x y) w = true := by
  rw [leq_iff] at h k
  unfold iJoin
  cases a : empB x <;> cases b : empB y <;> simp only [Bool.false_eq_true, if_true, if_false] <;> rw [leq_iff] <;> unfold sub at * <;>
    simp only [empB, decide_eq_true_eq, decide_eq_false_iff_not] at a b <;> (try simp only [mx, mn, nn]) <;> first | omega | ((repeat' split) <;> omega)
theorem join_up1 (x y : I) : leqB x (iJoin x y) = true := by
  unfold iJoin
  cases a : empB x <;> cases b : empB y <;> simp only [Bool.false_eq_true, if_true, if_false] <;> rw [leq_iff] <;> unfold sub <;>
    simp only [empB, decide_eq_true_eq, decide_eq_false_iff_not] at a b <;> (try simp only [mx, mn, nn]) <;> first | omega | ((repeat' split) <;> omega)
theorem join_up2 (x y : I) : leqB y (iJoin x y) = true := by
  unfold iJoin
  cases a : empB x <;> cases b : empB y <;> simp only [Bool.false_eq_true, if_true, if_false] <;> rw [leq_iff] <;> unfold sub <;>
    simp only [empB, decide_eq_true_eq, decide_eq_false_iff_not] at a b <;> (try simp only [mx, mn, nn]) <;> first | omega | ((repeat' split) <;> omega)
theorem seen_le {p : En → Bool} {w : I} : ∀ {l : List En} {v : I}, leqB v w = true → (∀ e ∈ l, p e = true → leqB e.2.2.2.2 w = true) → leqB (seenS p v l) w = true
  | [], v, hv, _ => hv
  | e :: r, v, hv, h => by
    unfold seenS
    rw [List.foldl_cons]
    refine seen_le (l := r) ?_ fun x hx => h x (List.mem_cons_of_mem _ hx)
    split
    · rename_i hp; exact joinI_le hv (h e (List.mem_cons_self ..) hp)
    · exact hv
theorem seen_up {p : En → Bool} : ∀ {l : List En} {v : I}, leqB v (seenS p v l) = true
  | [], v => leq_refl v
  | e :: r, v => by
    unfold seenS
    rw [List.foldl_cons]
    refine leq_trans ?_ (seen_up (l := r))
    split
    · exact join_up1 _ _
    · exact leq_refl v
theorem seen_ge {p : En → Bool} : ∀ {l : List En} {v : I} {e : En}, e ∈ l → p e = true → leqB e.2.2.2.2 (seenS p v l) = true
  | d :: r, v, e, he, hp => by
    unfold seenS
    rw [List.foldl_cons]
    rcases List.mem_cons.1 he with rfl | he
    · rw [if_pos hp]; exact leq_trans (join_up2 _ _) (seen_up (l := r))
    · exact seen_ge (l := r) he hp
def subB (a b : Int) : Prop := ∀ i : Nat, a.toNat.testBit i = true → b.toNat.testBit i = true
def keyEq (e d : En) : Prop := d.1 = e.1 ∧ d.2.1 = e.2.1 ∧ d.2.2.1 = e.2.2.1 ∧ d.2.2.2.1 = e.2.2.2.1
def leT (a c : List En) : Prop := ∀ e ∈ a, ∃ d ∈ c, keyEq e d ∧ leqB e.2.2.2.2 d.2.2.2.2 = true
theorem ap_mono {a h k : Int} (s : subB k h) (e : apI a h = true) : apI a k = true := by
  unfold apI at *
  rw [beq_iff_eq] at *
  refine Nat.eq_of_testBit_eq fun i => ?_
  have := congrArg (fun n => n.testBit i) e
  simp only [Nat.testBit_and, Nat.zero_testBit] at this ⊢
  cases ha : a.toNat.testBit i
  · rfl
  · rw [ha, Bool.true_and] at this
    cases hk : k.toNat.testBit i
    · rfl
    · rw [s i hk] at this; cases this
theorem sees_mono {t : Int} {ar : Bool} {g h k : Int} {e d : En} (q : keyEq e d) (s : subB k h) (p : seesB t ar g h e = true) : seesB t ar g k d = true := by
  unfold seesB at *
  obtain ⟨q1, q2, q3, q4⟩ := q
  rw [q1, q2, q3, q4]
  simp only [Bool.and_eq_true] at p ⊢
  exact ⟨p.1, p.2.1, p.2.2.1, ap_mono s p.2.2.2⟩
theorem seenV_mono {a c : List En} {t : Int} {ar : Bool} {g h k : Int} (q : leT a c) (s : subB k h) : leqB (seenV a t ar g h) (seenV c t ar g k) = true :=
  seen_le (leq_emp (by decide)) fun e he hp => by
    obtain ⟨d, hd, h1, h2⟩ := q e he
    exact leq_trans h2 (seen_ge hd (sees_mono h1 s hp))
end Go.Proofs.Ytbdcblpjemmipaa.Ex

namespace Go.Proofs.Ytbdcblpjemmipaa.Ex
open Go.Proofs Go.Proofs.Ytbdcblpjemmipaa
set_option maxRecDepth 100000
set_option maxHeartbeats 2000000
set_option linter.unusedVariables false
set_option linter.unusedSimpArgs false
abbrev ty_136_0 : Type := (((List En) × (Unit × (Int × Unit))) × ((Int × (Bool × (Int × (Int × (Int × (Int × Unit)))))) × Unit))
abbrev fn_136_0 := (fun (x : ((List En) × Int × Int × Bool × Int × Int × Int × Int)) => (((x.1, (), x.2.1, ()), ((x.2.2.1, x.2.2.2.1, x.2.2.2.2.1, x.2.2.2.2.2.1, x.2.2.2.2.2.2.1, x.2.2.2.2.2.2.2, ()), ())) : ty_136_0))
abbrev fn_136_1 := (fun (d : ty_136_0) => ((d.1.1, d.1.2.2.1, d.2.1.1, d.2.1.2.1, d.2.1.2.2.1, d.2.1.2.2.2.1, d.2.1.2.2.2.2.1, d.2.1.2.2.2.2.2.1) : ((List En) × Int × Int × Bool × Int × Int × Int × Int)))
def ash_ref12_place : List Sh := [.dat (.sl tEn), .dat tEn]
def kp_ref12_place_64_0 : Nat → List Nat := fun c => bif c.beq 0 then [0, 3, 6] else [0, 3, 6]
noncomputable def sp_ref12_place : Nat → Option (List AV → Prog AV)
  | 56 => some (con_ref12_order)
  | _ => none
theorem hsp_ref12_place : ∀ g p, sp_ref12_place g = some p → SoundA Try.prog g p := by
  intro g p h
  unfold sp_ref12_place at h
  split at h
  · cases h; exact snd_ref12_order
  · cases h
noncomputable def cx_ref12_place0 : Ctx := { tab := tab, spec := sp_ref12_place, inl := inl, lps := fun _ _ => none, fuel := 40 }
theorem in_ref12_place0 : InlOk Try.prog cx_ref12_place0 := ⟨inl_ok, fun _ _ _ _ _ _ _ _ h => nomatch h⟩
theorem cal_ref12_place0 (g : Nat) : SoundA Try.prog g (evF cx_ref12_place0 keeps 8 g) := evF_sound (tabOk_of tab_ok) (cmpsOk_of tab_ok cmps_ok) mixed in_ref12_place0 hsp_ref12_place keeps 8 g
noncomputable def F_ref12_place_64_0 (base : Nat) : Tm → Prog (Nat × Tm) := evC cx_ref12_place0 (evF cx_ref12_place0 keeps 8) ⟨64, 36, keeps 64, base⟩ 0 (bodyX 64 0)
def s_ref12_place_64_0_0 : StS := ⟨[(0, .sl tEn), (3, .ptr 0 0), (6, .int .i64)], [(0, .box [.int .i64, .bool, .int .i64, .int .i64, .int .i64, .int .i64])], 1⟩
def x_ref12_place_64_0_0_0 : StS := ⟨[(0, .sl tEn), (3, .ptr 0 0), (6, .int .i64)], [(0, .box [.int .i64, .bool, .int .i64, .int .i64, .int .i64, .int .i64])], 1⟩
noncomputable def st_ref12_place_64_0_0 (s0 : (List En)) (s6 : Int) (b0 : Int) (b0_1 : Bool) (b0_2 : Int) (b0_3 : Int) (b0_4 : Int) (b0_5 : Int) : Option (((List En) × Int × Int × Bool × Int × Int × Int × Int) ⊕ ((List En) × Int × Int × Bool × Int × Int × Int × Int)) :=
  bif decide (s6 < (↑s0.length : Int)) then
 bif decide (0 ≤ s6) then
 optC s0[s6.toNat]? none fun d10 ↦
 optC (G_ref12_order (d10, (b0, b0_1, b0_2, b0_3, b0_4, b0_5), ())) none fun d11 ↦
 bif decide (d11 < 0) then some (Sum.inl (s0, Go.IntKind.i64.wrap (s6 + 1), b0, b0_1, b0_2, b0_3, b0_4, b0_5))
 else some (Sum.inr (s0, s6, b0, b0_1, b0_2, b0_3, b0_4, b0_5))
 else none
 else some (Sum.inr (s0, s6, b0, b0_1, b0_2, b0_3, b0_4, b0_5))
theorem rn_ref12_place_64_0_0 (s0 : (List En)) (s6 : Int) (b0 : Int) (b0_1 : Bool) (b0_2 : Int) (b0_3 : Int) (b0_4 : Int) (b0_5 : Int) : rdX cx_ref12_place0 keeps 8 ⟨64, 36, keeps 64, 0⟩ 0 (bodyX 64 0) 0 kp_ref12_place_64_0 (sT s_ref12_place_64_0_0 ((s0, (), s6, ()), ((b0, b0_1, b0_2, b0_3, b0_4, b0_5, ()), ()))) (sH s_ref12_place_64_0_0 ((s0, (), s6, ()), ((b0, b0_1, b0_2, b0_3, b0_4, b0_5, ()), ()))) (rdO (fun T h => (rdS s_ref12_place_64_0_0 T h).map fn_136_1) (getE 2 x_ref12_place_64_0_0_0 fn_136_1)) = st_ref12_place_64_0_0 s0 s6 b0 b0_1 b0_2 b0_3 b0_4 b0_5 := by kernel_rfl
noncomputable def L_ref12_place_64_0_0 (x : ((List En) × Int × Int × Bool × Int × Int × Int × Int)) : Option ((List En) × Int × Int × Bool × Int × Int × Int × Int) := iterO (fun x => st_ref12_place_64_0_0 x.1 x.2.1 x.2.2.1 x.2.2.2.1 x.2.2.2.2.1 x.2.2.2.2.2.1 x.2.2.2.2.2.2.1 x.2.2.2.2.2.2.2) FUEL x
noncomputable def q_ref12_place_64_0 : Nat → Tm → Prog (Nat × Tm) := (varP 0 (fun T h => (rdS s_ref12_place_64_0_0 T h).map fn_136_1) L_ref12_place_64_0_0 (altE 2 x_ref12_place_64_0_0_0 fn_136_0) (fun _ _ => .fail))
theorem ok_ref12_place_64_0 : VarOk kp_ref12_place_64_0 F_ref12_place_64_0 q_ref12_place_64_0 := (varX_ok (s := s_ref12_place_64_0_0) (un := fn_136_0) (by rfl) (fun _ => rfl) (getE_ok (s := x_ref12_place_64_0_0_0) (un := fn_136_0) (by rfl) (fun _ => rfl)) (step := fun x => st_ref12_place_64_0_0 x.1 x.2.1 x.2.2.1 x.2.2.2.1 x.2.2.2.2.1 x.2.2.2.2.2.1 x.2.2.2.2.2.2.1 x.2.2.2.2.2.2.2) (fun x => rn_ref12_place_64_0_0 x.1 x.2.1 x.2.2.1 x.2.2.2.1 x.2.2.2.2.1 x.2.2.2.2.2.1 x.2.2.2.2.2.2.1 x.2.2.2.2.2.2.2) (fun _ _ e => ⟨_, e⟩) (altE_ok 2 x_ref12_place_64_0_0_0 fn_136_0) (VarOk.fail _ _))
noncomputable def lpI_ref12_place_64_0 (base : Nat) (T : Tm) : Prog (Nat × Tm) := .norm base (kp_ref12_place_64_0 0) T (q_ref12_place_64_0 base)
theorem sndI_ref12_place_64_0 : SoundC Try.prog 36 (.loop (bodyX 64 0)) lpI_ref12_place_64_0 := loopK_sound (cx := cx_ref12_place0) (cal := evF cx_ref12_place0 keeps 8) (kp := keeps 64) (tabOk_of tab_ok) (cmpsOk_of tab_ok cmps_ok) cal_ref12_place0 mixed (hl_of (g := 64) (b := 0) in_ref12_place0 (by kernel_rfl) (by kernel_rfl)) ok_ref12_place_64_0
noncomputable def lpL_ref12_place_64_0 : Nat → Tm → Prog (Nat × Tm) := lpI_ref12_place_64_0
theorem sndL_ref12_place_64_0 : SoundC Try.prog 36 (.loop (bodyX 64 0)) lpL_ref12_place_64_0 := sndI_ref12_place_64_0
noncomputable def lp_ref12_place : Nat → Nat → Option (Nat → Tm → Prog (Nat × Tm))
  | 64, 0 => some lpL_ref12_place_64_0
  | _, _ => none
noncomputable def cx_ref12_place : Ctx := { tab := tab, spec := sp_ref12_place, inl := inl, lps := lp_ref12_place, fuel := 40 }
theorem in_ref12_place : InlOk Try.prog cx_ref12_place := ⟨inl_ok, fun g fn c hg hb q hq p hp => by
  change lp_ref12_place g q.1 = some p at hp
  change inl g = some fn at hg
  generalize hq1 : q.1 = b at hp
  unfold lp_ref12_place at hp
  split at hp
  · cases hp; exact lps_case (inl := inl) hg hb hq hq1 (by kernel_rfl) (by kernel_rfl) sndL_ref12_place_64_0
  · cases hp⟩
theorem cal_ref12_place (g : Nat) : SoundA Try.prog g (evF cx_ref12_place keeps 8 g) := evF_sound (tabOk_of tab_ok) (cmpsOk_of tab_ok cmps_ok) mixed in_ref12_place hsp_ref12_place keeps 8 g
noncomputable def g_ref12_place (a0 : (List En)) (a1 : En) : Option (Int × (Bool × Unit)) :=
  optC (L_ref12_place_64_0_0 (a0, 0, a1)) none fun d4 ↦
 bif decide (d4.2.1 < (↑d4.1.length : Int)) then
 bif decide (0 ≤ d4.2.1) then
 optC d4.1[d4.2.1.toNat]? none fun d5 ↦ optC (G_ref12_order (d5, d4.2.2, ())) none fun d6 ↦ some (d4.2.1, d6 == 0, PUnit.unit)
 else none
 else some (d4.2.1, false, PUnit.unit)
theorem raw_ref12_place (a0 : (List En)) (a1 : En) : evGX cx_ref12_place keeps 8 64 ash_ref12_place (.tup [.dat (.int .i64), .dat .bool]) ((a0, a1, ()) : ((List En) × (En × Unit))) = g_ref12_place a0 a1 := by kernel_rfl
noncomputable def G_ref12_place (x : ((List En) × (En × Unit))) : Option (Int × (Bool × Unit)) := g_ref12_place x.1 x.2.1
noncomputable def con_ref12_place : List AV → Prog AV := conP false ash_ref12_place (.tup [.dat (.int .i64), .dat .bool]) G_ref12_place
theorem snd_ref12_place : SoundA Try.prog 64 con_ref12_place := conP_sound (cal_ref12_place 64) false (by rfl) (by rfl) (fun x r e => (evGX_eq _ _ _ _ _ _ _).trans ((raw_ref12_place x.1 x.2.1).trans e)) (.inr fun _ => rfl)
end Go.Proofs.Ytbdcblpjemmipaa.Ex

namespace Go.Proofs.Ytbdcblpjemmipaa.Ex
open Go.Proofs Go.Proofs.Ytbdcblpjemmipaa
set_option maxRecDepth 100000
set_option maxHeartbeats 2000000
set_option linter.unusedVariables false
set_option linter.unusedSimpArgs false
abbrev fn_137_0 := (fun (d : ((Unit × ((List En) × (Int × Unit))) × ((List En) × Unit))) => ((d.1.2.1, d.1.2.2.1, d.2.1) : ((List En) × Int × (List En))))
abbrev fn_137_1 := (fun (x : (List En)) => ((((), ()), (x, ())) : ((Unit × Unit) × ((List En) × Unit))))
def ash_ref12_Add : List Sh := [.dat (.sl tEn), .dat (.sl tEn)]
def kp_ref12_Add_26_0 : Nat → List Nat := fun c => bif c.beq 0 then [0, 1, 5] else [0]
noncomputable def sp_ref12_Add : Nat → Option (List AV → Prog AV)
  | 49 => some (con_ref2_Empty)
  | 64 => some (con_ref12_place)
  | 15 => some (con_ref2_Join)
  | _ => none
theorem hsp_ref12_Add : ∀ g p, sp_ref12_Add g = some p → SoundA Try.prog g p := by
  intro g p h
  unfold sp_ref12_Add at h
  split at h
  · cases h; exact snd_ref2_Empty
  · cases h; exact snd_ref12_place
  · cases h; exact snd_ref2_Join
  · cases h
noncomputable def cx_ref12_Add0 : Ctx := { tab := tab, spec := sp_ref12_Add, inl := inl, lps := fun _ _ => none, fuel := 40 }
theorem in_ref12_Add0 : InlOk Try.prog cx_ref12_Add0 := ⟨inl_ok, fun _ _ _ _ _ _ _ _ h => nomatch h⟩
theorem cal_ref12_Add0 (g : Nat) : SoundA Try.prog g (evF cx_ref12_Add0 keeps 8 g) := evF_sound (tabOk_of tab_ok) (cmpsOk_of tab_ok cmps_ok) mixed in_ref12_Add0 hsp_ref12_Add keeps 8 g
noncomputable def F_ref12_Add_26_0 (base : Nat) : Tm → Prog (Nat × Tm) := evC cx_ref12_Add0 (evF cx_ref12_Add0 keeps 8) ⟨26, 66, keeps 26, base⟩ 0 (bodyX 26 0)
def s_ref12_Add_26_0_0 : StS := ⟨[(0, .row 0), (1, .sl tEn), (5, .int .i64)], [(0, .row tEn)], 1⟩
def x_ref12_Add_26_0_0_0 : StS := ⟨[(0, .row 0)], [(0, .row tEn)], 1⟩
noncomputable def st_ref12_Add_26_0_0 (s1 : (List En)) (s5 : Int) (b0 : (List En)) : Option (((List En) × Int × (List En)) ⊕ (List En)) :=
  bif decide (s5 < (↑s1.length : Int)) then
 bif decide (0 ≤ s5) then
 optC s1[s5.toNat]? none fun d5 ↦
 bif decide (d5.2.2.2.2.1 > d5.2.2.2.2.2) then some (Sum.inl (s1, Go.IntKind.i64.wrap (s5 + 1), b0))
 else
 bif decide (0 ≤ s5) then
 optC s1[s5.toNat]? none fun d6 ↦
 optC (G_ref12_place (b0, d6, ())) none fun d7 ↦
 bif d7.2.1 then
 bif decide (0 ≤ d7.1) then
 optC b0[Int.toNat d7.1]? none fun d8 ↦
 optC b0[Int.toNat d7.1]? none fun d9 ↦
 bif decide (0 ≤ s5) then
 optC s1[s5.toNat]? none fun d10 ↦
 optC (G_ref2_Join (d9.2.2.2.2, d10.2.2.2.2, ())) none fun d11 ↦
 bif decide (0 ≤ d7.1) then
 optC b0[Int.toNat d7.1]? none fun d12 ↦
 optC b0[Int.toNat d7.1]? none fun d13 ↦
 some (Sum.inl (s1, Go.IntKind.i64.wrap (s5 + 1), b0.set (Int.toNat d7.1) (d13.1, d13.2.1, d13.2.2.1, d13.2.2.2.1, d11)))
 else none
 else none
 else none
 else
 bif decide ((0 : Int) ≤ 0 ∧ 0 ≤ d7.1 ∧ d7.1 ≤ (↑b0.length : Int)) then
 bif decide (((List.length (α := I) []) + (List.drop (Int.toNat (0 : Int)) (List.take (Int.toNat d7.1) b0)).length + 1) * 48 ≤ lim) then
 bif decide (0 ≤ s5) then
 optC s1[s5.toNat]? none fun d8 ↦
 bif decide ((([] ++ List.drop (Int.toNat (0 : Int)) (List.take (Int.toNat d7.1) b0)).length + [d8].length + 1) * 48 ≤ lim) then
 bif decide (0 ≤ d7.1 ∧ d7.1 ≤ (↑b0.length : Int) ∧ (↑b0.length : Int) ≤ (↑b0.length : Int)) then
 bif
 decide
 ((([] ++ List.drop (Int.toNat (0 : Int)) (List.take (Int.toNat d7.1) b0) ++ [d8]).length + (List.drop (Int.toNat d7.1) (List.take (↑b0.length : Int).toNat b0)).length +
 1) *
 48 ≤
 lim) then
 some
 (Sum.inl
 (s1, Go.IntKind.i64.wrap (s5 + 1),
 [] ++ List.drop (Int.toNat (0 : Int)) (List.take (Int.toNat d7.1) b0) ++ [d8] ++ List.drop (Int.toNat d7.1) (List.take (↑b0.length : Int).toNat b0)))
 else none
 else none
 else none
 else none
 else none
 else none
 else none
 else none
 else some (Sum.inr b0)
theorem rn_ref12_Add_26_0_0 (s1 : (List En)) (s5 : Int) (b0 : (List En)) : rdX cx_ref12_Add0 keeps 8 ⟨26, 66, keeps 26, 0⟩ 0 (bodyX 26 0) 0 kp_ref12_Add_26_0 (sT s_ref12_Add_26_0_0 (((), s1, s5, ()), (b0, ()))) (sH s_ref12_Add_26_0_0 (((), s1, s5, ()), (b0, ()))) (rdO (fun T h => (rdS s_ref12_Add_26_0_0 T h).map fn_137_0) (getE 2 x_ref12_Add_26_0_0_0 (fun (d : ((Unit × Unit) × ((List En) × Unit))) => ((d.2.1) : (List En))))) = st_ref12_Add_26_0_0 s1 s5 b0 := by kernel_rfl
noncomputable def L_ref12_Add_26_0_0 (x : ((List En) × Int × (List En))) : Option (List En) := iterO (fun x => st_ref12_Add_26_0_0 x.1 x.2.1 x.2.2) FUEL x
noncomputable def q_ref12_Add_26_0 : Nat → Tm → Prog (Nat × Tm) := (varP 0 (fun T h => (rdS s_ref12_Add_26_0_0 T h).map fn_137_0) L_ref12_Add_26_0_0 (altE 2 x_ref12_Add_26_0_0_0 fn_137_1) (fun _ _ => .fail))
theorem ok_ref12_Add_26_0 : VarOk kp_ref12_Add_26_0 F_ref12_Add_26_0 q_ref12_Add_26_0 := (varX_ok (s := s_ref12_Add_26_0_0) (un := (fun (x : ((List En) × Int × (List En))) => ((((), x.1, x.2.1, ()), (x.2.2, ())) : ((Unit × ((List En) × (Int × Unit))) × ((List En) × Unit))))) (by rfl) (fun _ => rfl) (getE_ok (s := x_ref12_Add_26_0_0_0) (un := fn_137_1) (by rfl) (fun _ => rfl)) (step := fun x => st_ref12_Add_26_0_0 x.1 x.2.1 x.2.2) (fun x => rn_ref12_Add_26_0_0 x.1 x.2.1 x.2.2) (fun _ _ e => ⟨_, e⟩) (altE_ok 2 x_ref12_Add_26_0_0_0 fn_137_1) (VarOk.fail _ _))
noncomputable def lpI_ref12_Add_26_0 (base : Nat) (T : Tm) : Prog (Nat × Tm) := .norm base (kp_ref12_Add_26_0 0) T (q_ref12_Add_26_0 base)
theorem sndI_ref12_Add_26_0 : SoundC Try.prog 66 (.loop (bodyX 26 0)) lpI_ref12_Add_26_0 := loopK_sound (cx := cx_ref12_Add0) (cal := evF cx_ref12_Add0 keeps 8) (kp := keeps 26) (tabOk_of tab_ok) (cmpsOk_of tab_ok cmps_ok) cal_ref12_Add0 mixed (hl_of (g := 26) (b := 0) in_ref12_Add0 (by kernel_rfl) (by kernel_rfl)) ok_ref12_Add_26_0
noncomputable def lpL_ref12_Add_26_0 : Nat → Tm → Prog (Nat × Tm) := lpI_ref12_Add_26_0
theorem sndL_ref12_Add_26_0 : SoundC Try.prog 66 (.loop (bodyX 26 0)) lpL_ref12_Add_26_0 := sndI_ref12_Add_26_0
noncomputable def lp_ref12_Add : Nat → Nat → Option (Nat → Tm → Prog (Nat × Tm))
  | 26, 0 => some lpL_ref12_Add_26_0
  | _, _ => none
noncomputable def cx_ref12_Add : Ctx := { tab := tab, spec := sp_ref12_Add, inl := inl, lps := lp_ref12_Add, fuel := 40 }
theorem in_ref12_Add : InlOk Try.prog cx_ref12_Add := ⟨inl_ok, fun g fn c hg hb q hq p hp => by
  change lp_ref12_Add g q.1 = some p at hp
  change inl g = some fn at hg
  generalize hq1 : q.1 = b at hp
  unfold lp_ref12_Add at hp
  split at hp
  · cases hp; exact lps_case (inl := inl) hg hb hq hq1 (by kernel_rfl) (by kernel_rfl) sndL_ref12_Add_26_0
  · cases hp⟩
theorem cal_ref12_Add (g : Nat) : SoundA Try.prog g (evF cx_ref12_Add keeps 8 g) := evF_sound (tabOk_of tab_ok) (cmpsOk_of tab_ok cmps_ok) mixed in_ref12_Add hsp_ref12_Add keeps 8 g
noncomputable def g_ref12_Add (a0 : (List En)) (a1 : (List En)) : Option (List En) :=
  bif decide (((List.length (α := I) []) + a0.length + 1) * 48 ≤ lim) then optC (L_ref12_Add_26_0_0 (a1, 0, [] ++ a0)) none fun d4 ↦ some d4 else none
theorem raw_ref12_Add (a0 : (List En)) (a1 : (List En)) : evRX cx_ref12_Add keeps 8 26 ash_ref12_Add tEn ((a0, a1, ()) : ((List En) × ((List En) × Unit))) = g_ref12_Add a0 a1 := by kernel_rfl
noncomputable def G_ref12_Add (x : ((List En) × ((List En) × Unit))) : Option (List En) := g_ref12_Add x.1 x.2.1
noncomputable def con_ref12_Add : List AV → Prog AV := conR false ash_ref12_Add tEn G_ref12_Add
theorem snd_ref12_Add : SoundA Try.prog 26 con_ref12_Add := conR_sound (cal_ref12_Add 26) false (by rfl) (fun x r e => (evRX_eq _ _ _ _ _ _ _).trans ((raw_ref12_Add x.1 x.2.1).trans e)) (.inr (by rfl))
end Go.Proofs.Ytbdcblpjemmipaa.Ex

namespace Go.Proofs.Ytbdcblpjemmipaa.Ex
set_option maxRecDepth 100000
set_option maxHeartbeats 2000000
set_option linter.unusedVariables false
set_option linter.unusedSimpArgs false
noncomputable def bd_ref12_Add_26_0_0  (s1 : (List En)) (i : Nat) (b0 : (List En)) (d : En) : Option ((List En) ⊕ (List En)) :=
  bif decide (d.2.2.2.2.1 > d.2.2.2.2.2) then
   some (Sum.inl (b0))
 else optC (G_ref12_place (b0, d, ())) (none) fun d7 ↦
   bif d7.2.1 then
   bif decide (0 ≤ d7.1) then
   optC b0[Int.toNat d7.1]? (none) fun d8 ↦
   optC b0[Int.toNat d7.1]? (none) fun d9 ↦
   optC (G_ref2_Join (d9.2.2.2.2, d.2.2.2.2, ())) (none) fun d11 ↦
   bif decide (0 ≤ d7.1) then
   optC b0[Int.toNat d7.1]? (none) fun d12 ↦
   optC b0[Int.toNat d7.1]? (none) fun d13 ↦
   some (Sum.inl (b0.set (Int.toNat d7.1) (d13.1, d13.2.1, d13.2.2.1, d13.2.2.2.1, d11)))
 else none
 else none
 else bif decide ((0 : Int) ≤ 0 ∧ 0 ≤ d7.1 ∧ d7.1 ≤ (↑b0.length : Int)) then
   bif decide (((List.length (α := I) []) + (List.drop (Int.toNat (0 : Int)) (List.take (Int.toNat d7.1) b0)).length + 1) * 48 ≤ lim) then
   bif decide ((([] ++ List.drop (Int.toNat (0 : Int)) (List.take (Int.toNat d7.1) b0)).length + [d].length + 1) * 48 ≤ lim) then
   bif decide (0 ≤ d7.1 ∧ d7.1 ≤ (↑b0.length : Int) ∧ (↑b0.length : Int) ≤ (↑b0.length : Int)) then
   bif decide ((([] ++ List.drop (Int.toNat (0 : Int)) (List.take (Int.toNat d7.1) b0) ++ [d]).length + (List.drop (Int.toNat d7.1) (List.take (↑b0.length : Int).toNat b0)).length + 1) * 48 ≤ lim) then
   some (Sum.inl ([] ++ List.drop (Int.toNat (0 : Int)) (List.take (Int.toNat d7.1) b0) ++ [d] ++ List.drop (Int.toNat d7.1) (List.take (↑b0.length : Int).toNat b0)))
 else none
 else none
 else none
 else none
 else none
noncomputable def fn_ref12_Add_26_0_0  (s1 : (List En)) (b0 : (List En)) : Option (List En) :=
  some b0
noncomputable abbrev rx_ref12_Add_26_0_0  (s1 : (List En)) (i : Nat) (s : (List En)) : ((List En) × Int × (List En)) := (s1, (i : Int), s)
noncomputable def rv_ref12_Add_26_0_0  (s1 : (List En)) (s : (List En)) : Option (List En) := rangeO (fun i s d => bd_ref12_Add_26_0_0  s1 i s d) (fun s => fn_ref12_Add_26_0_0  s1 s) 0 s1 s
theorem rg_ref12_Add_26_0_0  (s1 : (List En)) (s : (List En)) (hl : s1.length < 9223372036854775807) : L_ref12_Add_26_0_0 (s1, 0, s) = rv_ref12_Add_26_0_0  s1 s := by
  unfold L_ref12_Add_26_0_0 rv_ref12_Add_26_0_0
  refine iterO_range0 s1 (rx_ref12_Add_26_0_0  s1) _ _ ?_ ?_ s (by unfold FUEL; omega)
  · intro i s d hi hd
    have e1 : decide ((i : Int) < (s1.length : Int)) = true := decide_eq_true (by omega)
    have e2 : decide (0 ≤ (i : Int)) = true := decide_eq_true (by omega)
    have e3 : Int.toNat (i : Int) = i := Int.toNat_natCast i
    have e4 := wrap_next hi (Nat.le_of_lt hl)
    show st_ref12_Add_26_0_0 (s1) ((i : Int)) (s) = upd _ (bd_ref12_Add_26_0_0  s1 i s d)
    unfold st_ref12_Add_26_0_0 bd_ref12_Add_26_0_0
    simp only [e1, e2, e3, e4, hd, cond_true, cond_false, optC_some, upd_cond, upd_optC, upd_elim, upd_inl, upd_inr, upd_none]
  · intro s
    have e1 : decide ((s1.length : Int) < (s1.length : Int)) = false := decide_eq_false (by omega)
    show st_ref12_Add_26_0_0 (s1) ((s1.length : Int)) (s) = _
    unfold st_ref12_Add_26_0_0 fn_ref12_Add_26_0_0
    rw [e1]
    rfl
end Go.Proofs.Ytbdcblpjemmipaa.Ex

namespace Go.Proofs.Ytbdcblpjemmipaa.Ex
set_option maxRecDepth 100000
set_option maxHeartbeats 2000000
set_option linter.unusedVariables false
set_option linter.unusedSimpArgs false
noncomputable def bd_ref12_place_64_0_0 (b0 : Int) (b0_1 : Bool) (b0_2 : Int) (b0_3 : Int) (b0_4 : Int) (b0_5 : Int) (s0 : (List En)) (i : Nat)  (d : En) : Option (Unit ⊕ ((List En) × Int × Int × Bool × Int × Int × Int × Int)) :=
  optC (G_ref12_order (d, (b0, b0_1, b0_2, b0_3, b0_4, b0_5), ())) (none) fun d11 ↦
   bif decide (d11 < 0) then
   some (Sum.inl ())
 else some (Sum.inr (s0, (i : Int), b0, b0_1, b0_2, b0_3, b0_4, b0_5))
noncomputable def fn_ref12_place_64_0_0 (b0 : Int) (b0_1 : Bool) (b0_2 : Int) (b0_3 : Int) (b0_4 : Int) (b0_5 : Int) (s0 : (List En))  : Option ((List En) × Int × Int × Bool × Int × Int × Int × Int) :=
  some (s0, (s0.length : Int), b0, b0_1, b0_2, b0_3, b0_4, b0_5)
noncomputable abbrev rx_ref12_place_64_0_0 (b0 : Int) (b0_1 : Bool) (b0_2 : Int) (b0_3 : Int) (b0_4 : Int) (b0_5 : Int) (s0 : (List En)) (i : Nat) (s : Unit) : ((List En) × Int × Int × Bool × Int × Int × Int × Int) := (s0, (i : Int), b0, b0_1, b0_2, b0_3, b0_4, b0_5)
noncomputable def rv_ref12_place_64_0_0 (b0 : Int) (b0_1 : Bool) (b0_2 : Int) (b0_3 : Int) (b0_4 : Int) (b0_5 : Int) (s0 : (List En)) (s : Unit) : Option ((List En) × Int × Int × Bool × Int × Int × Int × Int) := rangeO (fun i s d => bd_ref12_place_64_0_0 b0 b0_1 b0_2 b0_3 b0_4 b0_5 s0 i  d) (fun s => fn_ref12_place_64_0_0 b0 b0_1 b0_2 b0_3 b0_4 b0_5 s0 ) 0 s0 s
theorem rg_ref12_place_64_0_0 (b0 : Int) (b0_1 : Bool) (b0_2 : Int) (b0_3 : Int) (b0_4 : Int) (b0_5 : Int) (s0 : (List En)) (s : Unit) (hl : s0.length < 9223372036854775807) : L_ref12_place_64_0_0 (s0, 0, b0, b0_1, b0_2, b0_3, b0_4, b0_5) = rv_ref12_place_64_0_0 b0 b0_1 b0_2 b0_3 b0_4 b0_5 s0 s := by
  unfold L_ref12_place_64_0_0 rv_ref12_place_64_0_0
  refine iterO_range0 s0 (rx_ref12_place_64_0_0 b0 b0_1 b0_2 b0_3 b0_4 b0_5 s0) _ _ ?_ ?_ s (by unfold FUEL; omega)
  · intro i s d hi hd
    have e1 : decide ((i : Int) < (s0.length : Int)) = true := decide_eq_true (by omega)
    have e2 : decide (0 ≤ (i : Int)) = true := decide_eq_true (by omega)
    have e3 : Int.toNat (i : Int) = i := Int.toNat_natCast i
    have e4 := wrap_next hi (Nat.le_of_lt hl)
    show st_ref12_place_64_0_0 (s0) ((i : Int)) (b0) (b0_1) (b0_2) (b0_3) (b0_4) (b0_5) = upd _ (bd_ref12_place_64_0_0 b0 b0_1 b0_2 b0_3 b0_4 b0_5 s0 i  d)
    unfold st_ref12_place_64_0_0 bd_ref12_place_64_0_0
    simp only [e1, e2, e3, e4, hd, cond_true, cond_false, optC_some, upd_cond, upd_optC, upd_elim, upd_inl, upd_inr, upd_none]
  · intro s
    have e1 : decide ((s0.length : Int) < (s0.length : Int)) = false := decide_eq_false (by omega)
    show st_ref12_place_64_0_0 (s0) ((s0.length : Int)) (b0) (b0_1) (b0_2) (b0_3) (b0_4) (b0_5) = _
    unfold st_ref12_place_64_0_0 fn_ref12_place_64_0_0
    rw [e1]
    rfl
end Go.Proofs.Ytbdcblpjemmipaa.Ex

namespace Go.Proofs.Ytbdcblpjemmipaa.Ex
open Go.Proofs
set_option maxRecDepth 100000
set_option maxHeartbeats 2000000
set_option linter.unusedVariables false
set_option linter.unusedSimpArgs false
end Go.Proofs.Ytbdcblpjemmipaa.Ex

namespace Go.Proofs.Ytbdcblpjemmipaa.Ex
open Go.Proofs
set_option maxRecDepth 100000
set_option maxHeartbeats 2000000
set_option linter.unusedVariables false
set_option linter.unusedSimpArgs false
abbrev Ky := Int × Bool × Int × Int
def ky (e : En) : Ky := (e.1, e.2.1, e.2.2.1, e.2.2.2.1)
def vl (e : En) : I := e.2.2.2.2
theorem en_eq {a b : En} (h : ky a = ky b) (k : vl a = vl b) : a = b := by
  obtain ⟨a1, a2, a3, a4, a5⟩ := a
  obtain ⟨b1, b2, b3, b4, b5⟩ := b
  simp only [ky, vl, Prod.mk.injEq] at h k
  obtain ⟨rfl, rfl, rfl, rfl⟩ := h
  subst k; rfl
def arrK (b : Bool) : Int := if b = true then 1 else 0
theorem arr_inj {a b : Bool} : arrK a = arrK b ↔ a = b := by cases a <;> cases b <;> decide
def ltK (a b : Ky) : Prop := a.1 < b.1 ∨ a.1 = b.1 ∧ (arrK a.2.1 < arrK b.2.1 ∨ arrK a.2.1 = arrK b.2.1 ∧ (a.2.2.1 < b.2.2.1 ∨ a.2.2.1 = b.2.2.1 ∧ a.2.2.2 < b.2.2.2))
theorem ord_nat (a b : En) : ordI a b = cmpI a.1 b.1 (cmpI (arrK a.2.1) (arrK b.2.1) (cmpI a.2.2.1 b.2.2.1 (cmpI a.2.2.2.1 b.2.2.2.1 0))) := rfl
theorem ord_lt {a b : En} : ordI a b < 0 ↔ ltK (ky a) (ky b) := by
  rw [ord_nat]
  unfold ltK ky
  simp only
  generalize arrK a.2.1 = p
  generalize arrK b.2.1 = q
  unfold cmpI
  (repeat' split) <;> omega
theorem ord_eq {a b : En} : ordI a b = 0 ↔ ky a = ky b := by
  have h : ky a = ky b ↔ (a.1 = b.1 ∧ arrK a.2.1 = arrK b.2.1 ∧ a.2.2.1 = b.2.2.1 ∧ a.2.2.2.1 = b.2.2.2.1) := by
    simp only [ky, Prod.mk.injEq, arr_inj]
  rw [h, ord_nat]
  generalize arrK a.2.1 = p
  generalize arrK b.2.1 = q
  unfold cmpI
  (repeat' split) <;> omega
theorem ltK_irr {a : Ky} : ¬ ltK a a := by unfold ltK; omega
theorem ltK_trans {a b c : Ky} (h : ltK a b) (k : ltK b c) : ltK a c := by unfold ltK at *; omega
theorem ltK_tri {a b : Ky} (h : ¬ ltK a b) (k : a ≠ b) : ltK b a := by
  have e : a = b ↔ (a.1 = b.1 ∧ arrK a.2.1 = arrK b.2.1 ∧ a.2.2.1 = b.2.2.1 ∧ a.2.2.2 = b.2.2.2) := by
    obtain ⟨a1, a2, a3, a4⟩ := a
    obtain ⟨b1, b2, b3, b4⟩ := b
    simp only [Prod.mk.injEq, arr_inj]
  rw [Ne, e] at k
  unfold ltK at *; omega
def srt (l : List En) : Prop := l.Pairwise fun a b => ltK (ky a) (ky b)
theorem srt_of : ∀ {l : List En}, (∀ (i : Nat) (a b : En), l[i]? = some a → l[i + 1]? = some b → ordI a b < 0) → srt l
  | [], _ => List.Pairwise.nil
  | [a], _ => List.pairwise_singleton _ _
  | a :: b :: r, h => by
    have ih : srt (b :: r) := srt_of fun i x y hx hy => h (i + 1) x y hx hy
    have ab : ltK (ky a) (ky b) := ord_lt.1 (h 0 a b rfl rfl)
    refine List.pairwise_cons.2 ⟨fun c hc => ?_, ih⟩
    rcases List.mem_cons.1 hc with rfl | hc
    · exact ab
    · exact ltK_trans ab ((List.pairwise_cons.1 ih).1 c hc)
theorem srt_next {l : List En} (h : srt l) (i : Nat) (a b : En) (ha : l[i]? = some a) (hb : l[i + 1]? = some b) : ordI a b < 0 := by
  rw [ord_lt]
  obtain ⟨h1, rfl⟩ := List.getElem?_eq_some_iff.1 ha
  obtain ⟨h2, rfl⟩ := List.getElem?_eq_some_iff.1 hb
  exact List.pairwise_iff_getElem.1 h i (i + 1) h1 h2 (by omega)
theorem tabOK.srt {l : List En} (h : tabOK l) : srt l := srt_of h.s
theorem isTab_of {l : List En} (he : ∀ x ∈ l, entOK x) (hs : srt l) : isTabB l = true := by
  unfold isTabB
  rw [allIx_iff]
  intro j d hd
  have e := he d (List.mem_of_getElem? hd)
  unfold aheadB entB
  rw [e.v, e.n, decide_eq_false (show ¬ d.2.2.2.1 < 0 by have := e.h; omega), decide_eq_false (show ¬ d.2.2.2.1 ≥ 2147483648 by have := e.h; omega), Nat.zero_add]
  simp only [Bool.not_false, Bool.and_self, Bool.true_and]
  by_cases hj : j > 0
  · rw [decide_eq_true hj, cond_true]
    have hlt : j < l.length := (List.getElem?_eq_some_iff.1 hd).1
    rw [List.getElem?_eq_getElem (show j - 1 < l.length by omega)]
    simp only [Option.elim_some]
    have := srt_next hs (j - 1) _ d (List.getElem?_eq_getElem (by omega)) (by rw [show j - 1 + 1 = j by omega]; exact hd)
    rw [decide_eq_false (by omega)]; rfl
  · rw [decide_eq_false hj]; rfl
def tget (l : List En) (k : Ky) : Option I := (l.find? fun e => ky e == k).map vl
theorem tget_cons (d : En) (r : List En) (k : Ky) : tget (d :: r) k = if ky d = k then some (vl d) else tget r k := by
  unfold tget
  rw [List.find?_cons]
  by_cases h : ky d = k
  · rw [if_pos h, show (ky d == k) = true from beq_iff_eq.2 h]; rfl
  · rw [if_neg h, show (ky d == k) = false from beq_eq_false_iff_ne.2 h]
theorem tget_nil (k : Ky) : tget [] k = none := rfl
theorem tget_none {l : List En} {k : Ky} (h : ∀ d ∈ l, ky d ≠ k) : tget l k = none := by
  unfold tget
  rw [List.find?_eq_none.2 fun d hd => by rw [beq_iff_eq]; exact h d hd]; rfl
theorem tget_mem {l : List En} {k : Ky} {v : I} (h : tget l k = some v) : ∃ d ∈ l, ky d = k ∧ vl d = v := by
  unfold tget at h
  obtain ⟨d, h1, h2⟩ := Option.map_eq_some_iff.1 h
  exact ⟨d, List.mem_of_find?_eq_some h1, beq_iff_eq.1 (List.find?_some (p := fun e => ky e == k) h1), h2⟩
theorem mem_tget {l : List En} (hs : srt l) {d : En} (hd : d ∈ l) : tget l (ky d) = some (vl d) := by
  induction l with
  | nil => cases hd
  | cons x r ih =>
    rw [tget_cons]
    have h := List.pairwise_cons.1 hs
    rcases List.mem_cons.1 hd with rfl | hd
    · rw [if_pos rfl]
    · rw [if_neg (fun e => ltK_irr (e ▸ h.1 d hd)), ih h.2 hd]
theorem tab_ext : ∀ {a b : List En}, srt a → srt b → (∀ k, tget a k = tget b k) → a = b
  | [], [], _, _, _ => rfl
  | [], y :: s, _, hb, h => by have := h (ky y); rw [tget_cons, if_pos rfl] at this; cases this
  | x :: r, [], ha, _, h => by have := h (ky x); rw [tget_cons, if_pos rfl] at this; cases this
  | x :: r, y :: s, ha, hb, h => by
    have ka := List.pairwise_cons.1 ha
    have kb := List.pairwise_cons.1 hb
    have hx := h (ky x)
    have hy := h (ky y)
    rw [tget_cons, if_pos rfl, tget_cons] at hx
    rw [tget_cons, tget_cons, if_pos rfl] at hy
    have hk : ky x = ky y := by
      by_cases e : ky x = ky y
      · exact e
      · exfalso
        rw [if_neg (Ne.symm e)] at hx
        rw [if_neg e] at hy
        obtain ⟨d, hd, h1, _⟩ := tget_mem hx.symm
        obtain ⟨c, hc, h2, _⟩ := tget_mem hy
        have k1 := kb.1 d hd
        have k2 := ka.1 c hc
        rw [h1] at k1; rw [h2] at k2
        exact ltK_irr (ltK_trans k1 k2)
    rw [if_pos hk.symm] at hx
    have exy : x = y := en_eq hk (Option.some.inj hx)
    subst exy
    rw [tab_ext ka.2 kb.2 fun k => ?_]
    by_cases e : ky x = k
    · subst e
      rw [tget_none fun d hd q => ltK_irr (q ▸ ka.1 d hd), tget_none fun d hd q => ltK_irr (q ▸ kb.1 d hd)]
    · have := h k
      rwa [tget_cons, tget_cons, if_neg e, if_neg e] at this
def setV (d : En) (v : I) : En := (d.1, d.2.1, d.2.2.1, d.2.2.2.1, v)
def pinT (f : I → I → I) (e : En) : List En → List En
  | [] => [e]
  | d :: r => if ordI d e < 0 then d :: pinT f e r else if ordI d e = 0 then setV d (f (vl d) (vl e)) :: r else e :: d :: r
def posT (e : En) : List En → Nat
  | [] => 0
  | d :: r => if ordI d e < 0 then posT e r + 1 else 0
def fndT (e : En) : List En → Bool
  | [] => false
  | d :: r => if ordI d e < 0 then fndT e r else ordI d e == 0
theorem pos_le (e : En) : ∀ l, posT e l ≤ l.length
  | [] => Nat.le_refl _
  | d :: r => by unfold posT; have := pos_le e r; rw [List.length_cons]; split <;> omega
theorem pos_before (e : En) : ∀ (l : List En) (j : Nat) (d : En), j < posT e l → l[j]? = some d → ordI d e < 0
  | [], j, d, h, _ => by simp [posT] at h
  | c :: r, j, d, h, hd => by
    unfold posT at h
    split at h
    · rename_i hc
      cases j with
      | zero => cases hd; exact hc
      | succ j => exact pos_before e r j d (by omega) hd
    · omega
theorem pos_after {e : En} : ∀ {l : List En}, srt l → ∀ (j : Nat) (d : En), posT e l ≤ j → l[j]? = some d → ¬ ordI d e < 0
  | c :: r, hs, j, d, h, hd => by
    have k := List.pairwise_cons.1 hs
    unfold posT at h
    split at h
    · cases j with
      | zero => omega
      | succ j => exact pos_after k.2 j d (by omega) hd
    · rename_i hc
      cases j with
      | zero => cases hd; exact hc
      | succ j =>
        intro q
        rw [ord_lt] at q hc
        exact hc (ltK_trans (k.1 d (List.mem_of_getElem? (l := r) (i := j) hd)) q)
theorem fnd_at (e : En) : ∀ (l : List En), fndT e l = true → ∃ d, l[posT e l]? = some d ∧ ky d = ky e
  | [], h => nomatch h
  | d :: r, h => by
    unfold fndT at h
    unfold posT
    split
    · rename_i hc; rw [if_pos hc] at h; exact fnd_at e r h
    · rename_i hc; rw [if_neg hc] at h; exact ⟨d, rfl, ord_eq.1 (beq_iff_eq.1 h)⟩
theorem fnd_no (e : En) : ∀ (l : List En), fndT e l = false → ∀ d, l[posT e l]? = some d → ¬ ordI d e = 0
  | [], h, d, hd => by simp [posT] at hd
  | c :: r, h, d, hd => by
    unfold fndT at h
    unfold posT at hd
    split at hd
    · rename_i hc; rw [if_pos hc] at h; exact fnd_no e r h d hd
    · rename_i hc; rw [if_neg hc] at h; cases hd; exact beq_eq_false_iff_ne.1 h
theorem put_new (f : I → I → I) (e : En) : ∀ (l : List En), fndT e l = false → pinT f e l = l.take (posT e l) ++ e :: l.drop (posT e l)
  | [], _ => rfl
  | d :: r, h => by
    unfold fndT at h
    unfold pinT posT
    by_cases hc : ordI d e < 0
    · rw [if_pos hc] at h ⊢
      rw [if_pos hc, put_new f e r h]; rfl
    · rw [if_neg hc] at h ⊢
      rw [if_neg hc, if_neg (beq_eq_false_iff_ne.1 h)]; rfl
theorem put_old (f : I → I → I) (e : En) : ∀ (l : List En) (d : En), fndT e l = true → l[posT e l]? = some d → pinT f e l = l.set (posT e l) (setV d (f (vl d) (vl e)))
  | [], d, h, _ => nomatch h
  | c :: r, d, h, hd => by
    unfold fndT at h
    unfold posT at hd
    unfold pinT posT
    by_cases hc : ordI c e < 0
    · rw [if_pos hc] at h hd ⊢
      rw [if_pos hc, put_old f e r d h hd]; rfl
    · rw [if_neg hc] at h hd ⊢
      rw [if_neg hc, if_pos (beq_iff_eq.1 h)]
      cases hd; rfl
theorem put_mem {f : I → I → I} {e : En} : ∀ {l : List En} {x : En}, x ∈ pinT f e l → x ∈ l ∨ x = e ∨ ∃ d ∈ l, ky d = ky e ∧ x = setV d (f (vl d) (vl e))
  | [], x, h => .inr (.inl (List.mem_singleton.1 h))
  | d :: r, x, h => by
    unfold pinT at h
    split at h
    · rcases List.mem_cons.1 h with rfl | h
      · exact .inl (List.mem_cons_self ..)
      · rcases put_mem h with h | h | ⟨c, hc, h⟩
        · exact .inl (List.mem_cons_of_mem _ h)
        · exact .inr (.inl h)
        · exact .inr (.inr ⟨c, List.mem_cons_of_mem _ hc, h⟩)
    · split at h
      · rename_i hz
        rcases List.mem_cons.1 h with rfl | h
        · exact .inr (.inr ⟨d, List.mem_cons_self .., ord_eq.1 hz, rfl⟩)
        · exact .inl (List.mem_cons_of_mem _ h)
      · rcases List.mem_cons.1 h with rfl | h
        · exact .inr (.inl rfl)
        · exact .inl h
theorem put_len (f : I → I → I) (e : En) : ∀ l, (pinT f e l).length ≤ l.length + 1
  | [] => Nat.le_refl _
  | d :: r => by
    unfold pinT
    have := put_len f e r
    (repeat' split) <;> simp only [List.length_cons] <;> omega
theorem ky_set (d : En) (v : I) : ky (setV d v) = ky d := rfl
theorem put_srt {f : I → I → I} {e : En} : ∀ {l : List En}, srt l → srt (pinT f e l)
  | [], _ => List.pairwise_singleton _ _
  | d :: r, hs => by
    have k := List.pairwise_cons.1 hs
    unfold pinT
    split
    · rename_i hc
      refine List.pairwise_cons.2 ⟨fun x hx => ?_, put_srt k.2⟩
      rcases put_mem hx with h | rfl | ⟨c, hc', _, rfl⟩
      · exact k.1 x h
      · exact ord_lt.1 hc
      · rw [ky_set]; exact k.1 c hc'
    · split
      · exact List.pairwise_cons.2 ⟨fun x hx => k.1 x hx, k.2⟩
      · rename_i h1 h2
        rw [ord_lt] at h1
        rw [ord_eq] at h2
        have hed := ltK_tri h1 h2
        refine List.pairwise_cons.2 ⟨fun x hx => ?_, hs⟩
        rcases List.mem_cons.1 hx with rfl | hx
        · exact hed
        · exact ltK_trans hed (k.1 x hx)
def optV (f : I → I → I) (o : Option I) (v : I) : I := match o with | some u => f u v | none => v
theorem put_get {f : I → I → I} {e : En} : ∀ {l : List En}, srt l → ∀ k, tget (pinT f e l) k = if ky e = k then some (optV f (tget l k) (vl e)) else tget l k
  | [], _, k => by unfold pinT; rw [tget_cons, tget_nil]; rfl
  | d :: r, hs, k => by
    have h := List.pairwise_cons.1 hs
    unfold pinT
    split
    · rename_i hc
      rw [tget_cons, put_get h.2, tget_cons]
      by_cases hd : ky d = k
      · rw [if_pos hd, if_pos hd, if_neg (fun e2 => ltK_irr (by rw [ord_lt, hd, e2] at hc; exact hc))]
      · rw [if_neg hd, if_neg hd]
    · rename_i hc
      split
      · rename_i hz
        rw [ord_eq] at hz
        rw [tget_cons, tget_cons, ky_set, hz]
        by_cases he : ky e = k
        · rw [if_pos he, if_pos he, if_pos he]; rfl
        · rw [if_neg he, if_neg he, if_neg he]
      · rename_i hz
        rw [ord_lt] at hc
        rw [ord_eq] at hz
        have hed := ltK_tri hc hz
        rw [tget_cons]
        by_cases he : ky e = k
        · rw [if_pos he, if_pos he, tget_none]
          · rfl
          · intro x hx q
            rcases List.mem_cons.1 hx with rfl | hx
            · exact hz (q.trans he.symm)
            · exact ltK_irr (by have := ltK_trans hed (h.1 x hx); rwa [q, he] at this)
        · rw [if_neg he, if_neg he]
end Go.Proofs.Ytbdcblpjemmipaa.Ex

namespace Go.Proofs.Ytbdcblpjemmipaa.Ex
open Go.Proofs Go.Proofs.Ytbdcblpjemmipaa
set_option maxRecDepth 100000
set_option maxHeartbeats 2000000
set_option linter.unusedVariables false
set_option linter.unusedSimpArgs false
def ash_cmp_isNaN_int : List Sh := [.dat (.int .i64)]
noncomputable def sp_cmp_isNaN_int : Nat → Option (List AV → Prog AV)
  | _ => none
theorem hsp_cmp_isNaN_int : ∀ g p, sp_cmp_isNaN_int g = some p → SoundA Try.prog g p := by
  intro g p h
  unfold sp_cmp_isNaN_int at h
  split at h
  · cases h
noncomputable def cx_cmp_isNaN_int : Ctx := { tab := tab, spec := sp_cmp_isNaN_int, inl := inl, lps := fun _ _ => none, fuel := 40 }
theorem in_cmp_isNaN_int : InlOk Try.prog cx_cmp_isNaN_int := ⟨inl_ok, fun _ _ _ _ _ _ _ _ h => nomatch h⟩
theorem cal_cmp_isNaN_int (g : Nat) : SoundA Try.prog g (evF cx_cmp_isNaN_int keeps 8 g) := evF_sound (tabOk_of tab_ok) (cmpsOk_of tab_ok cmps_ok) mixed in_cmp_isNaN_int hsp_cmp_isNaN_int keeps 8 g
noncomputable def g_cmp_isNaN_int (a0 : Int) : Option Bool :=
  some (a0 != a0)
theorem raw_cmp_isNaN_int (a0 : Int) : evGX cx_cmp_isNaN_int keeps 8 146 ash_cmp_isNaN_int (.dat .bool) ((a0, ()) : (Int × Unit)) = g_cmp_isNaN_int a0 := by kernel_rfl
noncomputable def G_cmp_isNaN_int (x : (Int × Unit)) : Option Bool := g_cmp_isNaN_int x.1
noncomputable def con_cmp_isNaN_int : List AV → Prog AV := conP true ash_cmp_isNaN_int (.dat .bool) G_cmp_isNaN_int
theorem snd_cmp_isNaN_int : SoundA Try.prog 146 con_cmp_isNaN_int := conP_sound (cal_cmp_isNaN_int 146) true (by rfl) (by rfl) (fun x r e => (evGX_eq _ _ _ _ _ _ _).trans ((raw_cmp_isNaN_int x.1).trans e)) (.inl rfl)
end Go.Proofs.Ytbdcblpjemmipaa.Ex

namespace Go.Proofs.Ytbdcblpjemmipaa.Ex
open Go.Proofs Go.Proofs.Ytbdcblpjemmipaa
set_option maxRecDepth 100000
set_option maxHeartbeats 2000000
set_option linter.unusedVariables false
set_option linter.unusedSimpArgs false
def ash_cmp_Compare_int : List Sh := [.dat (.int .i64), .dat (.int .i64)]
noncomputable def sp_cmp_Compare_int : Nat → Option (List AV → Prog AV)
  | 146 => some (con_cmp_isNaN_int)
  | _ => none
theorem hsp_cmp_Compare_int : ∀ g p, sp_cmp_Compare_int g = some p → SoundA Try.prog g p := by
  intro g p h
  unfold sp_cmp_Compare_int at h
  split at h
  · cases h; exact snd_cmp_isNaN_int
  · cases h
noncomputable def cx_cmp_Compare_int : Ctx := { tab := tab, spec := sp_cmp_Compare_int, inl := inl, lps := fun _ _ => none, fuel := 40 }
theorem in_cmp_Compare_int : InlOk Try.prog cx_cmp_Compare_int := ⟨inl_ok, fun _ _ _ _ _ _ _ _ h => nomatch h⟩
theorem cal_cmp_Compare_int (g : Nat) : SoundA Try.prog g (evF cx_cmp_Compare_int keeps 8 g) := evF_sound (tabOk_of tab_ok) (cmpsOk_of tab_ok cmps_ok) mixed in_cmp_Compare_int hsp_cmp_Compare_int keeps 8 g
noncomputable def g_cmp_Compare_int (a0 : Int) (a1 : Int) : Option Int :=
  bif a0 != a0 then bif a1 != a1 then some 0 else some (-1)
 else bif a1 != a1 then some 1 else bif decide (a0 < a1) then some (-1) else bif decide (a0 > a1) then some 1 else some 0
theorem raw_cmp_Compare_int (a0 : Int) (a1 : Int) : evGX cx_cmp_Compare_int keeps 8 126 ash_cmp_Compare_int (.dat (.int .i64)) ((a0, a1, ()) : (Int × (Int × Unit))) = g_cmp_Compare_int a0 a1 := by kernel_rfl
noncomputable def G_cmp_Compare_int (x : (Int × (Int × Unit))) : Option Int := g_cmp_Compare_int x.1 x.2.1
noncomputable def con_cmp_Compare_int : List AV → Prog AV := conP true ash_cmp_Compare_int (.dat (.int .i64)) G_cmp_Compare_int
theorem snd_cmp_Compare_int : SoundA Try.prog 126 con_cmp_Compare_int := conP_sound (cal_cmp_Compare_int 126) true (by rfl) (by rfl) (fun x r e => (evGX_eq _ _ _ _ _ _ _).trans ((raw_cmp_Compare_int x.1 x.2.1).trans e)) (.inl rfl)
end Go.Proofs.Ytbdcblpjemmipaa.Ex

namespace Go.Proofs.Ytbdcblpjemmipaa.Ex
open Go.Proofs Go.Proofs.Ytbdcblpjemmipaa
set_option maxRecDepth 100000
set_option maxHeartbeats 2000000
set_option linter.unusedVariables false
set_option linter.unusedSimpArgs false
def ash_tab_flag : List Sh := [.dat .bool]
noncomputable def sp_tab_flag : Nat → Option (List AV → Prog AV)
  | _ => none
theorem hsp_tab_flag : ∀ g p, sp_tab_flag g = some p → SoundA Try.prog g p := by
  intro g p h
  unfold sp_tab_flag at h
  split at h
  · cases h
noncomputable def cx_tab_flag : Ctx := { tab := tab, spec := sp_tab_flag, inl := inl, lps := fun _ _ => none, fuel := 40 }
theorem in_tab_flag : InlOk Try.prog cx_tab_flag := ⟨inl_ok, fun _ _ _ _ _ _ _ _ h => nomatch h⟩
theorem cal_tab_flag (g : Nat) : SoundA Try.prog g (evF cx_tab_flag keeps 8 g) := evF_sound (tabOk_of tab_ok) (cmpsOk_of tab_ok cmps_ok) mixed in_tab_flag hsp_tab_flag keeps 8 g
noncomputable def g_tab_flag (a0 : Bool) : Option Int :=
  bif a0 then some 1 else some 0
theorem raw_tab_flag (a0 : Bool) : evGX cx_tab_flag keeps 8 127 ash_tab_flag (.dat (.int .i64)) ((a0, ()) : (Bool × Unit)) = g_tab_flag a0 := by kernel_rfl
noncomputable def G_tab_flag (x : (Bool × Unit)) : Option Int := g_tab_flag x.1
noncomputable def con_tab_flag : List AV → Prog AV := conP true ash_tab_flag (.dat (.int .i64)) G_tab_flag
theorem snd_tab_flag : SoundA Try.prog 127 con_tab_flag := conP_sound (cal_tab_flag 127) true (by rfl) (by rfl) (fun x r e => (evGX_eq _ _ _ _ _ _ _).trans ((raw_tab_flag x.1).trans e)) (.inl rfl)
end Go.Proofs.Ytbdcblpjemmipaa.Ex

namespace Go.Proofs.Ytbdcblpjemmipaa.Ex
open Go.Proofs Go.Proofs.Ytbdcblpjemmipaa
set_option maxRecDepth 100000
set_option maxHeartbeats 2000000
set_option linter.unusedVariables false
set_option linter.unusedSimpArgs false
abbrev fn_145_0 := (fun (d : ((Int × ((List Int) × (Int × (Int × Unit)))) × Unit)) => ((d.1.1, d.1.2.1, d.1.2.2.1, d.1.2.2.2.1) : (Int × (List Int) × Int × Int)))
abbrev fn_145_1 := (fun (x : (Int × Int)) => (((x.1, x.2, ()), ()) : ((Int × (Int × Unit)) × Unit)))
abbrev fn_145_2 := (fun (x : Int) => ((((), x, ()), ()) : ((Unit × (Int × Unit)) × Unit)))
def ash_cmp_Or_int : List Sh := [.dat (.sl (.int .i64))]
def kp_cmp_Or_int_125_0 : Nat → List Nat := fun c => bif c.beq 0 then [3, 6, 7, 8] else [2, 3]
noncomputable def sp_cmp_Or_int : Nat → Option (List AV → Prog AV)
  | _ => none
theorem hsp_cmp_Or_int : ∀ g p, sp_cmp_Or_int g = some p → SoundA Try.prog g p := by
  intro g p h
  unfold sp_cmp_Or_int at h
  split at h
  · cases h
noncomputable def cx_cmp_Or_int0 : Ctx := { tab := tab, spec := sp_cmp_Or_int, inl := inl, lps := fun _ _ => none, fuel := 40 }
theorem in_cmp_Or_int0 : InlOk Try.prog cx_cmp_Or_int0 := ⟨inl_ok, fun _ _ _ _ _ _ _ _ h => nomatch h⟩
theorem cal_cmp_Or_int0 (g : Nat) : SoundA Try.prog g (evF cx_cmp_Or_int0 keeps 8 g) := evF_sound (tabOk_of tab_ok) (cmpsOk_of tab_ok cmps_ok) mixed in_cmp_Or_int0 hsp_cmp_Or_int keeps 8 g
noncomputable def F_cmp_Or_int_125_0 (base : Nat) : Tm → Prog (Nat × Tm) := evC cx_cmp_Or_int0 (evF cx_cmp_Or_int0 keeps 8) ⟨125, 18, keeps 125, base⟩ 0 (bodyX 125 0)
def s_cmp_Or_int_125_0_0 : StS := ⟨[(3, .int .i64), (6, .sl (.int .i64)), (7, .int .i64), (8, .int .i64)], [], 0⟩
def x_cmp_Or_int_125_0_0_0 : StS := ⟨[(2, .undef), (3, .int .i64)], [], 0⟩
def x_cmp_Or_int_125_0_0_1 : StS := ⟨[(2, .int .i64), (3, .int .i64)], [], 0⟩
noncomputable def st_cmp_Or_int_125_0_0 (s3 : Int) (s6 : (List Int)) (s7 : Int) (s8 : Int) : Option ((Int × (List Int) × Int × Int) ⊕ (Int ⊕ (Int × Int))) :=
  bif decide (s8 < s7) then
 bif decide (0 ≤ s8) then
 optC s6[s8.toNat]? none fun d6 ↦ bif d6 != s3 then some (Sum.inr (Sum.inr (d6, s3))) else some (Sum.inl (s3, s6, s7, Go.IntKind.i64.wrap (s8 + 1)))
 else none
 else some (Sum.inr (Sum.inl s3))
theorem rn_cmp_Or_int_125_0_0 (s3 : Int) (s6 : (List Int)) (s7 : Int) (s8 : Int) : rdX cx_cmp_Or_int0 keeps 8 ⟨125, 18, keeps 125, 0⟩ 0 (bodyX 125 0) 0 kp_cmp_Or_int_125_0 (sT s_cmp_Or_int_125_0_0 ((s3, s6, s7, s8, ()), ())) (sH s_cmp_Or_int_125_0_0 ((s3, s6, s7, s8, ()), ())) (rdO (fun T h => (rdS s_cmp_Or_int_125_0_0 T h).map fn_145_0) (getOr (getE 2 x_cmp_Or_int_125_0_0_0 (fun (d : ((Unit × (Int × Unit)) × Unit)) => ((d.1.2.1) : Int))) (getE 1 x_cmp_Or_int_125_0_0_1 (fun (d : ((Int × (Int × Unit)) × Unit)) => ((d.1.1, d.1.2.1) : (Int × Int)))))) = st_cmp_Or_int_125_0_0 s3 s6 s7 s8 := by kernel_rfl
noncomputable def L_cmp_Or_int_125_0_0 (x : (Int × (List Int) × Int × Int)) : Option (Int ⊕ (Int × Int)) := iterO (fun x => st_cmp_Or_int_125_0_0 x.1 x.2.1 x.2.2.1 x.2.2.2) FUEL x
noncomputable def q_cmp_Or_int_125_0 : Nat → Tm → Prog (Nat × Tm) := (varP 0 (fun T h => (rdS s_cmp_Or_int_125_0_0 T h).map fn_145_0) L_cmp_Or_int_125_0_0 (fun y => .alt y (altE 2 x_cmp_Or_int_125_0_0_0 fn_145_2) (altE 1 x_cmp_Or_int_125_0_0_1 fn_145_1)) (fun _ _ => .fail))
theorem ok_cmp_Or_int_125_0 : VarOk kp_cmp_Or_int_125_0 F_cmp_Or_int_125_0 q_cmp_Or_int_125_0 := (varX_ok (s := s_cmp_Or_int_125_0_0) (un := (fun (x : (Int × (List Int) × Int × Int)) => (((x.1, x.2.1, x.2.2.1, x.2.2.2, ()), ()) : ((Int × ((List Int) × (Int × (Int × Unit)))) × Unit)))) (by rfl) (fun _ => rfl) (getOr_ok (getE_ok (s := x_cmp_Or_int_125_0_0_0) (un := fn_145_2) (by rfl) (fun _ => rfl)) (getE_ok (s := x_cmp_Or_int_125_0_0_1) (un := fn_145_1) (by rfl) (fun _ => rfl))) (step := fun x => st_cmp_Or_int_125_0_0 x.1 x.2.1 x.2.2.1 x.2.2.2) (fun x => rn_cmp_Or_int_125_0_0 x.1 x.2.1 x.2.2.1 x.2.2.2) (fun _ _ e => ⟨_, e⟩) (altOr_ok (altE_ok 2 x_cmp_Or_int_125_0_0_0 fn_145_2) (altE_ok 1 x_cmp_Or_int_125_0_0_1 fn_145_1)) (VarOk.fail _ _))
noncomputable def lpI_cmp_Or_int_125_0 (base : Nat) (T : Tm) : Prog (Nat × Tm) := .norm base (kp_cmp_Or_int_125_0 0) T (q_cmp_Or_int_125_0 base)
theorem sndI_cmp_Or_int_125_0 : SoundC Try.prog 18 (.loop (bodyX 125 0)) lpI_cmp_Or_int_125_0 := loopK_sound (cx := cx_cmp_Or_int0) (cal := evF cx_cmp_Or_int0 keeps 8) (kp := keeps 125) (tabOk_of tab_ok) (cmpsOk_of tab_ok cmps_ok) cal_cmp_Or_int0 mixed (hl_of (g := 125) (b := 0) in_cmp_Or_int0 (by kernel_rfl) (by kernel_rfl)) ok_cmp_Or_int_125_0
noncomputable def lpL_cmp_Or_int_125_0 : Nat → Tm → Prog (Nat × Tm) := lpI_cmp_Or_int_125_0
theorem sndL_cmp_Or_int_125_0 : SoundC Try.prog 18 (.loop (bodyX 125 0)) lpL_cmp_Or_int_125_0 := sndI_cmp_Or_int_125_0
noncomputable def lp_cmp_Or_int : Nat → Nat → Option (Nat → Tm → Prog (Nat × Tm))
  | 125, 0 => some lpL_cmp_Or_int_125_0
  | _, _ => none
noncomputable def cx_cmp_Or_int : Ctx := { tab := tab, spec := sp_cmp_Or_int, inl := inl, lps := lp_cmp_Or_int, fuel := 40 }
theorem in_cmp_Or_int : InlOk Try.prog cx_cmp_Or_int := ⟨inl_ok, fun g fn c hg hb q hq p hp => by
  change lp_cmp_Or_int g q.1 = some p at hp
  change inl g = some fn at hg
  generalize hq1 : q.1 = b at hp
  unfold lp_cmp_Or_int at hp
  split at hp
  · cases hp; exact lps_case (inl := inl) hg hb hq hq1 (by kernel_rfl) (by kernel_rfl) sndL_cmp_Or_int_125_0
  · cases hp⟩
theorem cal_cmp_Or_int (g : Nat) : SoundA Try.prog g (evF cx_cmp_Or_int keeps 8 g) := evF_sound (tabOk_of tab_ok) (cmpsOk_of tab_ok cmps_ok) mixed in_cmp_Or_int hsp_cmp_Or_int keeps 8 g
noncomputable def g_cmp_Or_int (a0 : (List Int)) : Option Int :=
  optC (L_cmp_Or_int_125_0_0 (0, a0, (↑a0.length : Int), 0)) none fun d3 ↦ Sum.elim (fun e4 ↦ some e4) (fun e4 ↦ some e4.1) d3
theorem raw_cmp_Or_int (a0 : (List Int)) : evGX cx_cmp_Or_int keeps 8 125 ash_cmp_Or_int (.dat (.int .i64)) ((a0, ()) : ((List Int) × Unit)) = g_cmp_Or_int a0 := by kernel_rfl
noncomputable def G_cmp_Or_int (x : ((List Int) × Unit)) : Option Int := g_cmp_Or_int x.1
noncomputable def con_cmp_Or_int : List AV → Prog AV := conP true ash_cmp_Or_int (.dat (.int .i64)) G_cmp_Or_int
theorem snd_cmp_Or_int : SoundA Try.prog 125 con_cmp_Or_int := conP_sound (cal_cmp_Or_int 125) true (by rfl) (by rfl) (fun x r e => (evGX_eq _ _ _ _ _ _ _).trans ((raw_cmp_Or_int x.1).trans e)) (.inl rfl)
end Go.Proofs.Ytbdcblpjemmipaa.Ex

namespace Go.Proofs.Ytbdcblpjemmipaa.Ex
open Go.Proofs Go.Proofs.Ytbdcblpjemmipaa
set_option maxRecDepth 100000
set_option maxHeartbeats 2000000
set_option linter.unusedVariables false
set_option linter.unusedSimpArgs false
def ash_tab_order : List Sh := [.dat tEn, .dat tEn]
noncomputable def sp_tab_order : Nat → Option (List AV → Prog AV)
  | 126 => some (con_cmp_Compare_int)
  | 127 => some (con_tab_flag)
  | 125 => some (con_cmp_Or_int)
  | _ => none
theorem hsp_tab_order : ∀ g p, sp_tab_order g = some p → SoundA Try.prog g p := by
  intro g p h
  unfold sp_tab_order at h
  split at h
  · cases h; exact snd_cmp_Compare_int
  · cases h; exact snd_tab_flag
  · cases h; exact snd_cmp_Or_int
  · cases h
noncomputable def cx_tab_order : Ctx := { tab := tab, spec := sp_tab_order, inl := inl, lps := fun _ _ => none, fuel := 40 }
theorem in_tab_order : InlOk Try.prog cx_tab_order := ⟨inl_ok, fun _ _ _ _ _ _ _ _ h => nomatch h⟩
theorem cal_tab_order (g : Nat) : SoundA Try.prog g (evF cx_tab_order keeps 8 g) := evF_sound (tabOk_of tab_ok) (cmpsOk_of tab_ok cmps_ok) mixed in_tab_order hsp_tab_order keeps 8 g
noncomputable def g_tab_order (a0 : En) (a1 : En) : Option Int :=
  optC (G_cmp_Compare_int (a0.1, a1.1, ())) none fun d3 ↦
 optC (G_tab_flag (a0.2.1, ())) none fun d4 ↦
 optC (G_tab_flag (a1.2.1, ())) none fun d5 ↦
 optC (G_cmp_Compare_int (a0.2.2.1, a1.2.2.1, ())) none fun d6 ↦
 optC (G_cmp_Compare_int (a0.2.2.2.1, a1.2.2.2.1, ())) none fun d7 ↦
 optC (G_cmp_Or_int ([d3, Go.IntKind.i64.wrap (d4 - d5), d6, d7], ())) none fun d8 ↦ some d8
theorem raw_tab_order (a0 : En) (a1 : En) : evGX cx_tab_order keeps 8 97 ash_tab_order (.dat (.int .i64)) ((a0, a1, ()) : (En × (En × Unit))) = g_tab_order a0 a1 := by kernel_rfl
noncomputable def G_tab_order (x : (En × (En × Unit))) : Option Int := g_tab_order x.1 x.2.1
noncomputable def con_tab_order : List AV → Prog AV := conP true ash_tab_order (.dat (.int .i64)) G_tab_order
theorem snd_tab_order : SoundA Try.prog 97 con_tab_order := conP_sound (cal_tab_order 97) true (by rfl) (by rfl) (fun x r e => (evGX_eq _ _ _ _ _ _ _).trans ((raw_tab_order x.1 x.2.1).trans e)) (.inl rfl)
end Go.Proofs.Ytbdcblpjemmipaa.Ex

namespace Go.Proofs.Ytbdcblpjemmipaa.Ex
open Go.Proofs Go.Proofs.Ytbdcblpjemmipaa
set_option maxRecDepth 100000
set_option maxHeartbeats 2000000
set_option linter.unusedVariables false
set_option linter.unusedSimpArgs false
abbrev ty_147_0 : Type := (((List En) × ((Unit × Unit) × (Unit × (Int × (Int × (Int × Unit)))))) × ((Int × (Bool × (Int × (Int × (Int × (Int × Unit)))))) × ((Int × (Bool × (Int × (Int × (Int × (Int × Unit)))))) × Unit)))
abbrev ty_147_1 : Type := (((List En) × ((Unit × Unit) × (Unit × (Int × (Int × Unit))))) × ((Int × (Bool × (Int × (Int × (Int × (Int × Unit)))))) × ((Int × (Bool × (Int × (Int × (Int × (Int × Unit)))))) × Unit)))
abbrev ty_147_2 : Type := ((List En) × Int × Int × Int × Int × Bool × Int × Int × Int × Int × Int × Bool × Int × Int × Int × Int)
abbrev ty_147_3 : Type := ((List En) × Int × Int × Int × Bool × Int × Int × Int × Int × Int × Bool × Int × Int × Int × Int)
abbrev fn_147_0 := (fun (x : ty_147_3) => (((x.1, ((), ()), (), x.2.1, x.2.2.1, ()), ((x.2.2.2.1, x.2.2.2.2.1, x.2.2.2.2.2.1, x.2.2.2.2.2.2.1, x.2.2.2.2.2.2.2.1, x.2.2.2.2.2.2.2.2.1, ()), (x.2.2.2.2.2.2.2.2.2.1, x.2.2.2.2.2.2.2.2.2.2.1, x.2.2.2.2.2.2.2.2.2.2.2.1, x.2.2.2.2.2.2.2.2.2.2.2.2.1, x.2.2.2.2.2.2.2.2.2.2.2.2.2.1, x.2.2.2.2.2.2.2.2.2.2.2.2.2.2, ()), ())) : ty_147_1))
abbrev fn_147_1 := (fun (d : ty_147_0) => ((d.1.1, d.1.2.2.2.1, d.1.2.2.2.2.1, d.1.2.2.2.2.2.1, d.2.1.1, d.2.1.2.1, d.2.1.2.2.1, d.2.1.2.2.2.1, d.2.1.2.2.2.2.1, d.2.1.2.2.2.2.2.1, d.2.2.1.1, d.2.2.1.2.1, d.2.2.1.2.2.1, d.2.2.1.2.2.2.1, d.2.2.1.2.2.2.2.1, d.2.2.1.2.2.2.2.2.1) : ty_147_2))
def ash_tab_find : List Sh := [.dat (.sl tEn), .dat tEn]
def kp_tab_find_96_0 : Nat → List Nat := fun c => bif c.beq 0 then [0, 2, 4, 8, 9, 10] else [0, 2, 4, 8, 9]
noncomputable def sp_tab_find : Nat → Option (List AV → Prog AV)
  | 97 => some (con_tab_order)
  | _ => none
theorem hsp_tab_find : ∀ g p, sp_tab_find g = some p → SoundA Try.prog g p := by
  intro g p h
  unfold sp_tab_find at h
  split at h
  · cases h; exact snd_tab_order
  · cases h
noncomputable def cx_tab_find0 : Ctx := { tab := tab, spec := sp_tab_find, inl := inl, lps := fun _ _ => none, fuel := 40 }
theorem in_tab_find0 : InlOk Try.prog cx_tab_find0 := ⟨inl_ok, fun _ _ _ _ _ _ _ _ h => nomatch h⟩
theorem cal_tab_find0 (g : Nat) : SoundA Try.prog g (evF cx_tab_find0 keeps 8 g) := evF_sound (tabOk_of tab_ok) (cmpsOk_of tab_ok cmps_ok) mixed in_tab_find0 hsp_tab_find keeps 8 g
noncomputable def F_tab_find_96_0 (base : Nat) : Tm → Prog (Nat × Tm) := evC cx_tab_find0 (evF cx_tab_find0 keeps 8) ⟨96, 49, keeps 96, base⟩ 0 (bodyX 96 0)
def s_tab_find_96_0_0 : StS := ⟨[(0, .sl tEn), (2, .clo 97 [] []), (4, .ptr 1 0), (8, .int .i64), (9, .int .i64), (10, .int .i64)], [(0, .box [.int .i64, .bool, .int .i64, .int .i64, .int .i64, .int .i64]), (1, .box [.int .i64, .bool, .int .i64, .int .i64, .int .i64, .int .i64])], 2⟩
def x_tab_find_96_0_0_0 : StS := ⟨[(0, .sl tEn), (2, .clo 97 [] []), (4, .ptr 1 0), (8, .int .i64), (9, .int .i64)], [(0, .box [.int .i64, .bool, .int .i64, .int .i64, .int .i64, .int .i64]), (1, .box [.int .i64, .bool, .int .i64, .int .i64, .int .i64, .int .i64])], 2⟩
noncomputable def st_tab_find_96_0_0 (s0 : (List En)) (s8 : Int) (s9 : Int) (s10 : Int) (b0 : Int) (b0_1 : Bool) (b0_2 : Int) (b0_3 : Int) (b0_4 : Int) (b0_5 : Int) (b1 : Int) (b1_1 : Bool) (b1_2 : Int) (b1_3 : Int) (b1_4 : Int) (b1_5 : Int) : Option (ty_147_2 ⊕ ty_147_3) :=
  bif decide (s9 < s10) then
 bif decide (0 ≤ Go.IntKind.i64.wrap ((Go.IntKind.u64.wrap (Go.IntKind.i64.wrap (s9 + s10))).fdiv (2 ^ Min.min (Int.toNat 1) Go.IntKind.u64.bits))) then
 optC s0[(Go.IntKind.i64.wrap ((Go.IntKind.u64.wrap (Go.IntKind.i64.wrap (s9 + s10))).fdiv (2 ^ Min.min (Int.toNat 1) Go.IntKind.u64.bits))).toNat]? none fun d18 ↦
 optC (G_tab_order (d18, (b1, b1_1, b1_2, b1_3, b1_4, b1_5), ())) none fun d19 ↦
 bif decide (d19 < 0) then
 some
 (Sum.inl
 (s0, s8, Go.IntKind.i64.wrap (Go.IntKind.i64.wrap ((Go.IntKind.u64.wrap (Go.IntKind.i64.wrap (s9 + s10))).fdiv (2 ^ Min.min (Int.toNat 1) Go.IntKind.u64.bits)) + 1), s10, b0, b0_1, b0_2,
 b0_3, b0_4, b0_5, b1, b1_1, b1_2, b1_3, b1_4, b1_5))
 else
 some
 (Sum.inl
 (s0, s8, s9, Go.IntKind.i64.wrap ((Go.IntKind.u64.wrap (Go.IntKind.i64.wrap (s9 + s10))).fdiv (2 ^ Min.min (Int.toNat 1) Go.IntKind.u64.bits)), b0, b0_1, b0_2, b0_3, b0_4, b0_5, b1,
 b1_1, b1_2, b1_3, b1_4, b1_5))
 else none
 else some (Sum.inr (s0, s8, s9, b0, b0_1, b0_2, b0_3, b0_4, b0_5, b1, b1_1, b1_2, b1_3, b1_4, b1_5))
theorem rn_tab_find_96_0_0 (s0 : (List En)) (s8 : Int) (s9 : Int) (s10 : Int) (b0 : Int) (b0_1 : Bool) (b0_2 : Int) (b0_3 : Int) (b0_4 : Int) (b0_5 : Int) (b1 : Int) (b1_1 : Bool) (b1_2 : Int) (b1_3 : Int) (b1_4 : Int) (b1_5 : Int) : rdX cx_tab_find0 keeps 8 ⟨96, 49, keeps 96, 1⟩ 0 (bodyX 96 0) 1 kp_tab_find_96_0 (sT s_tab_find_96_0_0 ((s0, ((), ()), (), s8, s9, s10, ()), ((b0, b0_1, b0_2, b0_3, b0_4, b0_5, ()), (b1, b1_1, b1_2, b1_3, b1_4, b1_5, ()), ()))) (sH s_tab_find_96_0_0 ((s0, ((), ()), (), s8, s9, s10, ()), ((b0, b0_1, b0_2, b0_3, b0_4, b0_5, ()), (b1, b1_1, b1_2, b1_3, b1_4, b1_5, ()), ()))) (rdO (fun T h => (rdS s_tab_find_96_0_0 T h).map fn_147_1) (getE 2 x_tab_find_96_0_0_0 (fun (d : ty_147_1) => ((d.1.1, d.1.2.2.2.1, d.1.2.2.2.2.1, d.2.1.1, d.2.1.2.1, d.2.1.2.2.1, d.2.1.2.2.2.1, d.2.1.2.2.2.2.1, d.2.1.2.2.2.2.2.1, d.2.2.1.1, d.2.2.1.2.1, d.2.2.1.2.2.1, d.2.2.1.2.2.2.1, d.2.2.1.2.2.2.2.1, d.2.2.1.2.2.2.2.2.1) : ty_147_3)))) = st_tab_find_96_0_0 s0 s8 s9 s10 b0 b0_1 b0_2 b0_3 b0_4 b0_5 b1 b1_1 b1_2 b1_3 b1_4 b1_5 := by kernel_rfl
noncomputable def L_tab_find_96_0_0 (x : ty_147_2) : Option ty_147_3 := iterO (fun x => st_tab_find_96_0_0 x.1 x.2.1 x.2.2.1 x.2.2.2.1 x.2.2.2.2.1 x.2.2.2.2.2.1 x.2.2.2.2.2.2.1 x.2.2.2.2.2.2.2.1 x.2.2.2.2.2.2.2.2.1 x.2.2.2.2.2.2.2.2.2.1 x.2.2.2.2.2.2.2.2.2.2.1 x.2.2.2.2.2.2.2.2.2.2.2.1 x.2.2.2.2.2.2.2.2.2.2.2.2.1 x.2.2.2.2.2.2.2.2.2.2.2.2.2.1 x.2.2.2.2.2.2.2.2.2.2.2.2.2.2.1 x.2.2.2.2.2.2.2.2.2.2.2.2.2.2.2) FUEL x
noncomputable def q_tab_find_96_0 : Nat → Tm → Prog (Nat × Tm) := (varP 1 (fun T h => (rdS s_tab_find_96_0_0 T h).map fn_147_1) L_tab_find_96_0_0 (altE 2 x_tab_find_96_0_0_0 fn_147_0) (fun _ _ => .fail))
theorem ok_tab_find_96_0 : VarOk kp_tab_find_96_0 F_tab_find_96_0 q_tab_find_96_0 := (varX_ok (s := s_tab_find_96_0_0) (un := (fun (x : ty_147_2) => (((x.1, ((), ()), (), x.2.1, x.2.2.1, x.2.2.2.1, ()), ((x.2.2.2.2.1, x.2.2.2.2.2.1, x.2.2.2.2.2.2.1, x.2.2.2.2.2.2.2.1, x.2.2.2.2.2.2.2.2.1, x.2.2.2.2.2.2.2.2.2.1, ()), (x.2.2.2.2.2.2.2.2.2.2.1, x.2.2.2.2.2.2.2.2.2.2.2.1, x.2.2.2.2.2.2.2.2.2.2.2.2.1, x.2.2.2.2.2.2.2.2.2.2.2.2.2.1, x.2.2.2.2.2.2.2.2.2.2.2.2.2.2.1, x.2.2.2.2.2.2.2.2.2.2.2.2.2.2.2, ()), ())) : ty_147_0))) (by rfl) (fun _ => rfl) (getE_ok (s := x_tab_find_96_0_0_0) (un := fn_147_0) (by rfl) (fun _ => rfl)) (step := fun x => st_tab_find_96_0_0 x.1 x.2.1 x.2.2.1 x.2.2.2.1 x.2.2.2.2.1 x.2.2.2.2.2.1 x.2.2.2.2.2.2.1 x.2.2.2.2.2.2.2.1 x.2.2.2.2.2.2.2.2.1 x.2.2.2.2.2.2.2.2.2.1 x.2.2.2.2.2.2.2.2.2.2.1 x.2.2.2.2.2.2.2.2.2.2.2.1 x.2.2.2.2.2.2.2.2.2.2.2.2.1 x.2.2.2.2.2.2.2.2.2.2.2.2.2.1 x.2.2.2.2.2.2.2.2.2.2.2.2.2.2.1 x.2.2.2.2.2.2.2.2.2.2.2.2.2.2.2) (fun x => rn_tab_find_96_0_0 x.1 x.2.1 x.2.2.1 x.2.2.2.1 x.2.2.2.2.1 x.2.2.2.2.2.1 x.2.2.2.2.2.2.1 x.2.2.2.2.2.2.2.1 x.2.2.2.2.2.2.2.2.1 x.2.2.2.2.2.2.2.2.2.1 x.2.2.2.2.2.2.2.2.2.2.1 x.2.2.2.2.2.2.2.2.2.2.2.1 x.2.2.2.2.2.2.2.2.2.2.2.2.1 x.2.2.2.2.2.2.2.2.2.2.2.2.2.1 x.2.2.2.2.2.2.2.2.2.2.2.2.2.2.1 x.2.2.2.2.2.2.2.2.2.2.2.2.2.2.2) (fun _ _ e => ⟨_, e⟩) (altE_ok 2 x_tab_find_96_0_0_0 fn_147_0) (VarOk.fail _ _))
noncomputable def lpI_tab_find_96_0 (base : Nat) (T : Tm) : Prog (Nat × Tm) := .norm base (kp_tab_find_96_0 0) T (q_tab_find_96_0 base)
theorem sndI_tab_find_96_0 : SoundC Try.prog 49 (.loop (bodyX 96 0)) lpI_tab_find_96_0 := loopK_sound (cx := cx_tab_find0) (cal := evF cx_tab_find0 keeps 8) (kp := keeps 96) (tabOk_of tab_ok) (cmpsOk_of tab_ok cmps_ok) cal_tab_find0 mixed (hl_of (g := 96) (b := 0) in_tab_find0 (by kernel_rfl) (by kernel_rfl)) ok_tab_find_96_0
noncomputable def lpL_tab_find_96_0 : Nat → Tm → Prog (Nat × Tm) := lpI_tab_find_96_0
theorem sndL_tab_find_96_0 : SoundC Try.prog 49 (.loop (bodyX 96 0)) lpL_tab_find_96_0 := sndI_tab_find_96_0
noncomputable def lp_tab_find : Nat → Nat → Option (Nat → Tm → Prog (Nat × Tm))
  | 96, 0 => some lpL_tab_find_96_0
  | _, _ => none
noncomputable def cx_tab_find : Ctx := { tab := tab, spec := sp_tab_find, inl := inl, lps := lp_tab_find, fuel := 40 }
theorem in_tab_find : InlOk Try.prog cx_tab_find := ⟨inl_ok, fun g fn c hg hb q hq p hp => by
  change lp_tab_find g q.1 = some p at hp
  change inl g = some fn at hg
  generalize hq1 : q.1 = b at hp
  unfold lp_tab_find at hp
  split at hp
  · cases hp; exact lps_case (inl := inl) hg hb hq hq1 (by kernel_rfl) (by kernel_rfl) sndL_tab_find_96_0
  · cases hp⟩
theorem cal_tab_find (g : Nat) : SoundA Try.prog g (evF cx_tab_find keeps 8 g) := evF_sound (tabOk_of tab_ok) (cmpsOk_of tab_ok cmps_ok) mixed in_tab_find hsp_tab_find keeps 8 g
noncomputable def g_tab_find (a0 : (List En)) (a1 : En) : Option (Int × (Bool × Unit)) :=
  optC (L_tab_find_96_0_0 (a0, (↑a0.length : Int), 0, (↑a0.length : Int), a1.1, a1.2.1, a1.2.2.1, a1.2.2.2.1, a1.2.2.2.2.1, a1.2.2.2.2.2, a1)) none
 fun d4 ↦
 bif decide (d4.2.2.1 < d4.2.1) then
 bif decide (0 ≤ d4.2.2.1) then
 optC d4.1[d4.2.2.1.toNat]? none fun d5 ↦
 optC (G_tab_order (d5, d4.2.2.2.2.2.2.2.2.2, ())) none fun d6 ↦ some (d4.2.2.1, d6 == 0, PUnit.unit)
 else none
 else some (d4.2.2.1, false, PUnit.unit)
theorem raw_tab_find (a0 : (List En)) (a1 : En) : evGX cx_tab_find keeps 8 60 ash_tab_find (.tup [.dat (.int .i64), .dat .bool]) ((a0, a1, ()) : ((List En) × (En × Unit))) = g_tab_find a0 a1 := by kernel_rfl
noncomputable def G_tab_find (x : ((List En) × (En × Unit))) : Option (Int × (Bool × Unit)) := g_tab_find x.1 x.2.1
noncomputable def con_tab_find : List AV → Prog AV := conP false ash_tab_find (.tup [.dat (.int .i64), .dat .bool]) G_tab_find
theorem snd_tab_find : SoundA Try.prog 60 con_tab_find := conP_sound (cal_tab_find 60) false (by rfl) (by rfl) (fun x r e => (evGX_eq _ _ _ _ _ _ _).trans ((raw_tab_find x.1 x.2.1).trans e)) (.inr fun _ => rfl)
end Go.Proofs.Ytbdcblpjemmipaa.Ex

namespace Go.Proofs.Ytbdcblpjemmipaa.Ex
set_option maxRecDepth 100000
set_option maxHeartbeats 2000000
set_option linter.unusedVariables false
set_option linter.unusedSimpArgs false
noncomputable def bd_cmp_Or_int_125_0_0 (s3 : Int) (s6 : (List Int)) (i : Nat)  (d : Int) : Option (Unit ⊕ (Int ⊕ (Int × Int))) :=
  bif d != s3 then
   some (Sum.inr (Sum.inr (d, s3)))
 else some (Sum.inl ())
noncomputable def fn_cmp_Or_int_125_0_0 (s3 : Int) (s6 : (List Int))  : Option (Int ⊕ (Int × Int)) :=
  some (Sum.inl s3)
noncomputable abbrev rx_cmp_Or_int_125_0_0 (s3 : Int) (s6 : (List Int)) (i : Nat) (s : Unit) : (Int × (List Int) × Int × Int) := (s3, s6, (s6.length : Int), (i : Int))
noncomputable def rv_cmp_Or_int_125_0_0 (s3 : Int) (s6 : (List Int)) (s : Unit) : Option (Int ⊕ (Int × Int)) := rangeO (fun i s d => bd_cmp_Or_int_125_0_0 s3 s6 i  d) (fun s => fn_cmp_Or_int_125_0_0 s3 s6 ) 0 s6 s
theorem rg_cmp_Or_int_125_0_0 (s3 : Int) (s6 : (List Int)) (s : Unit) (hl : s6.length < 9223372036854775807) : L_cmp_Or_int_125_0_0 (s3, s6, (s6.length : Int), 0) = rv_cmp_Or_int_125_0_0 s3 s6 s := by
  unfold L_cmp_Or_int_125_0_0 rv_cmp_Or_int_125_0_0
  refine iterO_range0 s6 (rx_cmp_Or_int_125_0_0 s3 s6) _ _ ?_ ?_ s (by unfold FUEL; omega)
  · intro i s d hi hd
    have e1 : decide ((i : Int) < (s6.length : Int)) = true := decide_eq_true (by omega)
    have e2 : decide (0 ≤ (i : Int)) = true := decide_eq_true (by omega)
    have e3 : Int.toNat (i : Int) = i := Int.toNat_natCast i
    have e4 := wrap_next hi (Nat.le_of_lt hl)
    show st_cmp_Or_int_125_0_0 (s3) (s6) ((s6.length : Int)) ((i : Int)) = upd _ (bd_cmp_Or_int_125_0_0 s3 s6 i  d)
    unfold st_cmp_Or_int_125_0_0 bd_cmp_Or_int_125_0_0
    simp only [e1, e2, e3, e4, hd, cond_true, cond_false, optC_some, upd_cond, upd_optC, upd_elim, upd_inl, upd_inr, upd_none]
  · intro s
    have e1 : decide ((s6.length : Int) < (s6.length : Int)) = false := decide_eq_false (by omega)
    show st_cmp_Or_int_125_0_0 (s3) (s6) ((s6.length : Int)) ((s6.length : Int)) = _
    unfold st_cmp_Or_int_125_0_0 fn_cmp_Or_int_125_0_0
    rw [e1]
    rfl
end Go.Proofs.Ytbdcblpjemmipaa.Ex

namespace Go.Proofs.Ytbdcblpjemmipaa.Ex
open Go.Proofs Go.Proofs.Ytbdcblpjemmipaa
noncomputable def cx_slices_Clone_Entry : Ctx := { tab := tab, spec := fun _ => none, inl := inl, lps := fun _ _ => none, fuel := 40 }
noncomputable def con_slices_Clone_Entry : List AV → Prog AV := cloneP 48 tEn
theorem snd_slices_Clone_Entry : SoundA Try.prog 52 con_slices_Clone_Entry :=
  clone_sound (cx := cx_slices_Clone_Entry) (cal := fun _ _ => .fail) (i := ⟨(.sl (.st (.pair (.int .i64) (.pair .bool (.pair (.int .i64) (.pair (.int .i64) (.st (.pair (.int .i64) (.int .i64))))))))), 24, 36, [], false⟩) (ie := ⟨(.st (.pair (.int .i64) (.pair .bool (.pair (.int .i64) (.pair (.int .i64) (.st (.pair (.int .i64) (.int .i64)))))))), 48, 0, [(0, 1), (1, 1), (2, 1), (3, 1), (4, 2)], true⟩) (tabOk_of tab_ok) Try.func52 (inl_ok 52 Try.f52 rfl).2 (t := 22) (tb := 4) (s0 := "slices.go:355") (s1 := "slices.go:357") (s2 := "slices.go:358") (s3 := "slices.go:362") (by kernel_rfl) (by kernel_rfl) (by kernel_rfl) rfl rfl rfl rfl
end Go.Proofs.Ytbdcblpjemmipaa.Ex

namespace Go.Proofs.Ytbdcblpjemmipaa.Ex
set_option linter.unusedVariables false
set_option linter.unusedSectionVars false
section
variable [RT] {P : Program}

theorem oneV_eq (v : Value) : oneV v = v.oneCell' := by cases v <;> rfl

theorem run_copyK (w : World) (dT sT ty elem : TypeId) (k g o dLen dCap : Nat) (a : Addr) (sLen sCap : Nat) (cur : Array Value) (t : TypeId) (cs : List Value)
    (hu : P.underlying dT = some (.slice elem)) (hs : (P.info? elem).map (·.size) = some k)
    (hg : w.heap[g]? = some (.cells cur t (0, 0))) (hn : cs.length = Nat.min sLen dLen * k)
    (hsrc : ∀ j v, cs[j]? = some v → w.cell? (a.add j) = some v) (hfit : o + cs.length ≤ cur.size) (h1 : ∀ v ∈ cs, oneV v = true) :
    (Builtin.copy_ #[dT, sT] ty #[.slice (some ⟨g, o, none⟩) dLen dCap, .slice (some a) sLen sCap]).run P w =
      .ok (goInt (Nat.min sLen dLen)) (w.setRow g (cur.toList.take o ++ cs ++ cur.toList.drop (o + cs.length)).toArray) := by
  have hl := run_loadCells_list (P := P) w a cs hsrc
  have hst := run_storeCells_at P g o t cs 0 cur w hg (by simpa using hfit) (fun v hv => by rw [← oneV_eq]; exact h1 v hv)
  rw [hn] at hl
  cases hq : P.info? elem with
  | none => simp [hq] at hs
  | some i =>
    have hi : i.size = k := by simpa [hq] using hs
    simp [Builtin.copy_, run_underlying hu, Builtin.lenOf, Builtin.firstCells, sizeOf, typeInfo, hq, hi, hl, hst]

theorem ERep.take {S : Stb} {e : Ty} {l : List (D e)} {c : List Value} (h : ERep S e c.toArray 0 l) (n : c.length = l.length * (eTy e).size) (i : Nat) (hi : i ≤ l.length) :
    ERep S e (c.take (i * (eTy e).size)).toArray 0 (l.take i) := by
  intro q hq
  rw [List.length_take] at hq
  obtain ⟨cs, k1, k2, k3⟩ := h q (by omega)
  refine ⟨cs, k1, fun j hj => ?_, by rw [List.getElem_take]; exact k3⟩
  have hb : q * (eTy e).size + (eTy e).size ≤ i * (eTy e).size := by rw [← Nat.succ_mul]; exact Nat.mul_le_mul_right _ (by omega)
  have := k2 j hj
  rw [List.getElem?_toArray] at this ⊢
  rw [← this, List.getElem?_take_of_lt (by omega)]

theorem ERep.drop {S : Stb} {e : Ty} {l : List (D e)} {c : List Value} (h : ERep S e c.toArray 0 l) (n : c.length = l.length * (eTy e).size) (i : Nat) (hi : i ≤ l.length) :
    ERep S e (c.drop (i * (eTy e).size)).toArray 0 (l.drop i) := by
  intro q hq
  rw [List.length_drop] at hq
  obtain ⟨cs, k1, k2, k3⟩ := h (i + q) (by omega)
  refine ⟨cs, k1, fun j hj => ?_, by rw [List.getElem_drop]; exact k3⟩
  have := k2 j hj
  rw [List.getElem?_toArray] at this ⊢
  rw [← this, List.getElem?_drop]
  congr 1
  rw [Nat.add_mul]; omega
end
end Go.Proofs.Ytbdcblpjemmipaa.Ex

namespace Go.Proofs.Ytbdcblpjemmipaa.Ex
open Go.Proofs Go.Shelf Go.RowKit Go.Lib
set_option linter.unusedVariables false
set_option linter.unusedSimpArgs false
structure LayI (P : Program) : Prop where
  mixed : P.follows .mixedOrders = true
  f93 : P.funcs[93]? = some Try.f93
  f123 : P.funcs[123]? = some Try.f123
  t3 : P.underlying 3 = some (TypeDesc.int IntKind.i64)
  a3 : ∀ w, (isAgg 3).run P w = .ok false w
  z3 : ∀ w, (Go.sizeOf 3).run P w = .ok 1 w
  t4 : P.underlying 4 = some (TypeDesc.bool)
  a4 : ∀ w, (isAgg 4).run P w = .ok false w
  z4 : ∀ w, (Go.sizeOf 4).run P w = .ok 1 w
  z36 : ∀ w, (Go.sizeOf 36).run P w = .ok 6 w
  t22 : P.underlying 22 = some (TypeDesc.slice 36)
  a22 : ∀ w, (isAgg 22).run P w = .ok false w
  z22 : ∀ w, (Go.sizeOf 22).run P w = .ok 1 w
  i36 : ∃ i z, P.info? 36 = some i ∧ i.zero = some z ∧ i.size = 6 ∧ i.bytes = 48 ∧ z.cells.size = 6

theorem f93_ntmps : Try.f93.ntmps = 95 := by kernel_rfl

variable {P : Program}

set_option maxHeartbeats 4000000 in
set_option maxRecDepth 100000 in
theorem ins_shift (L : LayI P) (b n c i vb vc : Nat) (vs news : List Value) (vx : Array Value) (et et' : TypeId) (w : World) (hi : i < n) (hroom : n + 1 ≤ c) (hbig : (n + 1) * 48 ≤ 140737488355328) (hvb : vb ≠ b)
    (hw : w.heap[b]? = some (.cells vs.toArray et (0, 0))) (hvl : vs.length = c * 6) (hv : w.heap[vb]? = some (.cells vx et' (0, 0))) (hnl : news.length = 6) (hnv : ∀ (j : Nat) (v : Value), news[j]? = some v → vx[j]? = some v)
    (h1c : ∀ v ∈ vs.take (n * 6), oneV v = true) (h1v : ∀ v ∈ news, oneV v = true) :
    Calls P 93 #[.slice (some ⟨b, 0, none⟩) n c, .int .i64 i, .slice (some ⟨vb, 0, none⟩) 1 vc] w fun e w' =>
      e = .returned (.slice (some ⟨b, 0, none⟩) (n + 1) c) ∧ w' = w.drew.setRow b (vs.take (i * 6) ++ news ++ (vs.drop (i * 6)).take ((n - i) * 6) ++ vs.drop ((n + 1) * 6)).toArray := by
  have t3 := L.t3; have a3 := L.a3; have z3 := L.z3; have t4 := L.t4; have a4 := L.a4; have z4 := L.z4; have z36 := L.z36; have t22 := L.t22; have a22 := L.a22; have z22 := L.z22
  have u3 := run_underlying L.t3; have u4 := run_underlying L.t4; have u22 := run_underlying L.t22
  have mixed := L.mixed
  have hz2 : ¬ ((i : Int) = (n : Int)) := by omega
  have hhead : World.shape? w vb = some (et', vx.size) := by simp [World.shape?, hv]
  have hheadb : World.shape? w b = some (et, vs.toArray.size) := by simp [World.shape?, hw]
  have hov : ∀ lb cb, (callFunc 123 #[.slice (some ⟨vb, 0, none⟩) 1 vc, .slice (some ⟨b, (i + 1) * 6, none⟩) lb cb]).run P w = .ok (.value (.bool false)) w := fun lb cb => by
    rw [run_callFunc_extern L.f123 (by kernel_rfl) (by kernel_rfl) (by kernel_rfl) (e := Extern.SlicesOverlaps.overlaps #[22, 22] #[4]) (by kernel_rfl),
      Lib.run_overlaps_apart w 22 4 36 L.t22 6 L.z36 ⟨vb, 0, none⟩ ⟨b, (i + 1) * 6, none⟩ 1 vc lb cb hvb et' et vx.size vs.toArray.size hhead hheadb (by simp only [List.size_toArray]; omega) (by simp [World.frozen?, hv]) (by simp [World.frozen?, hv])]
    rfl
  have hw1 : IntKind.i64.wrap ((i : Int) + 1) = (i : Int) + 1 := by rw [IntKind.wrap_i64]; omega
  have hb1 : (0 : Int) ≤ (i : Int) + 1 := by omega
  have hb5 : (i : Int) + 1 ≤ (n : Int) + 1 := by omega
  have hin : i ≤ n := by omega
  have htn : ((i : Int) + 1).toNat = i + 1 := by omega
  have hb2 : ¬ (c = i + 1) := by omega
  have hb3 : (i : Int) ≤ (n : Int) + 1 := by omega
  have hb4 : ¬ (c = i) := by omega
  obtain ⟨i0, z0, hi0, -, hsz0, -, -⟩ := L.i36
  have hsz : (P.info? 36).map (·.size) = some 6 := by rw [hi0]; simp [hsz0]
  have e1 : (i + 1) * 6 = i * 6 + 6 := by omega
  have htl : ((vs.drop (i * 6)).take ((n - i) * 6)).length = (n - i) * 6 := by rw [List.length_take, List.length_drop]; omega
  have hcell : ∀ (W : World) (b' : Nat) (cs : Array Value) (t' : TypeId), W.heap[b']? = some (.cells cs t' (0, 0)) → ∀ o, W.cell? ⟨b', o, none⟩ = cs[o]? := fun W b' cs t' h o => cell_in h o
  have hwd : w.drew.heap[b]? = some (.cells vs.toArray et (0, 0)) := hw
  have hcp1 : ∀ ty dc sc, (Builtin.copy_ #[22, 22] ty #[.slice (some ⟨b, (i + 1) * 6, none⟩) (n - i) dc, .slice (some ⟨b, i * 6, none⟩) (n + 1 - i) sc]).run P w.drew =
      .ok (goInt ((n - i : Nat) : Int)) (w.drew.setRow b (vs.take ((i + 1) * 6) ++ (vs.drop (i * 6)).take ((n - i) * 6) ++ vs.drop ((i + 1) * 6 + (n - i) * 6)).toArray) := fun ty dc sc => by
    have h := run_copyK w.drew 22 22 ty 36 6 b ((i + 1) * 6) (n - i) dc ⟨b, i * 6, none⟩ (n + 1 - i) sc vs.toArray et ((vs.drop (i * 6)).take ((n - i) * 6)) L.t22 hsz hwd
      (by rw [htl]; simp only [Nat.min_def]; split <;> omega)
      (fun j v hj => by
        rw [List.getElem?_take] at hj
        split at hj
        · rw [Addr.add_lit, hcell _ _ _ _ hwd, List.getElem?_toArray]; rwa [List.getElem?_drop] at hj
        · cases hj)
      (by rw [htl]; simp only [List.size_toArray]; omega) (fun v hv => h1c v (by rw [Nat.sub_mul, ← List.drop_take] at hv; exact List.mem_of_mem_drop hv))
    have hmin : Nat.min (n + 1 - i) (n - i) = n - i := by simp only [Nat.min_def]; split <;> omega
    rw [hmin, htl] at h
    exact h
  obtain ⟨C1, hC1⟩ : ∃ C1 : List Value, C1 = vs.take ((i + 1) * 6) ++ (vs.drop (i * 6)).take ((n - i) * 6) ++ vs.drop ((i + 1) * 6 + (n - i) * 6) := ⟨_, rfl⟩
  have hC1l : C1.length = c * 6 := by
    rw [hC1]; simp only [List.length_append, htl, List.length_take, List.length_drop]; omega
  have hfin : C1.take (i * 6) ++ news ++ C1.drop (i * 6 + 6) = vs.take (i * 6) ++ news ++ (vs.drop (i * 6)).take ((n - i) * 6) ++ vs.drop ((n + 1) * 6) := by
    have h1 : C1.take (i * 6) = vs.take (i * 6) := by
      rw [hC1, List.append_assoc, List.take_append_of_le_length (by rw [List.length_take]; omega), List.take_take, Nat.min_eq_left (by omega)]
    have h2 : C1.drop (i * 6 + 6) = (vs.drop (i * 6)).take ((n - i) * 6) ++ vs.drop ((n + 1) * 6) := by
      rw [hC1, List.append_assoc, List.drop_append_of_le_length (by rw [List.length_take]; omega), List.drop_eq_nil_of_le (by rw [List.length_take]; omega), List.nil_append, show (i + 1) * 6 + (n - i) * 6 = (n + 1) * 6 by omega]
    rw [h1, h2, ← List.append_assoc]
  rw [← hC1] at hcp1
  have hcp2 : ∀ (W : World), W.heap[b]? = some (.cells C1.toArray et (0, 0)) → W.heap[vb]? = some (.cells vx et' (0, 0)) → ∀ ty dc, (Builtin.copy_ #[22, 22] ty #[.slice (some ⟨b, i * 6, none⟩) (n + 1 - i) dc, .slice (some ⟨vb, 0, none⟩) 1 vc]).run P W =
      .ok (goInt 1) (W.setRow b (C1.take (i * 6) ++ news ++ C1.drop (i * 6 + 6)).toArray) := fun W hWb hWv ty dc => by
    have h := run_copyK W 22 22 ty 36 6 b (i * 6) (n + 1 - i) dc ⟨vb, 0, none⟩ 1 vc C1.toArray et news L.t22 hsz hWb
      (by rw [hnl]; simp only [Nat.min_def]; split <;> omega)
      (fun j v hj => by rw [Addr.add_lit, hcell _ _ _ _ hWv, Nat.zero_add]; exact hnv j v hj)
      (by rw [hnl]; simp only [List.size_toArray]; omega) h1v
    have hmin : Nat.min 1 (n + 1 - i) = 1 := by simp only [Nat.min_def]; split <;> omega
    rw [hmin, hnl] at h
    exact h
  have hWb : (w.drew.setRow b C1.toArray).heap[b]? = some (.cells C1.toArray et (0, 0)) := setRow_heap w.drew b _ C1.toArray et _ hwd
  have hWv : (w.drew.setRow b C1.toArray).heap[vb]? = some (.cells vx et' (0, 0)) := by
    simp only [World.setRow, Array.getElem?_modify]
    rw [if_neg (fun e => hvb e.symm)]; exact hv
  rw [← hfin]
  clear e1 hC1 hfin hC1l htl hcell hwd hhead hheadb
  go_enter L.f93, f93_ntmps
  go_wp2_with (simp only [hov])
  go_region_law_o (refine step_copy_runI rfl _ _ 22 22 rfl _ _ (by simp [Act.eval, Act.put]) (by simp [Act.eval, Act.put]) (hcp1 _ _ _) ?_)
  go_wp2_with (at_builtin; refine wpList_copy_runI _ rfl _ _ 22 22 rfl _ _ rfl rfl (hcp2 _ hWb hWv _ _) ?_)
  go_ret
  refine ⟨rfl, ?_⟩
  rw [setRow_setRow, List.append_assoc]

set_option maxHeartbeats 4000000 in
set_option maxRecDepth 100000 in
theorem ins_end (L : LayI P) (base : Option Addr) (n c vb vc : Nat) (w w' : World) (u : Value) 
    (hrun : ∀ ty, (Builtin.append_ #[22, 22] ty #[.slice base n c, .slice (some ⟨vb, 0, none⟩) 1 vc]).run P w = .ok u w') :
    Calls P 93 #[.slice base n c, .int .i64 n, .slice (some ⟨vb, 0, none⟩) 1 vc] w fun e w'' => e = .returned u ∧ w'' = w' := by
  have t3 := L.t3; have a3 := L.a3; have z3 := L.z3; have t4 := L.t4; have a4 := L.a4; have z4 := L.z4; have z36 := L.z36; have t22 := L.t22; have a22 := L.a22; have z22 := L.z22
  have u3 := run_underlying L.t3; have u4 := run_underlying L.t4; have u22 := run_underlying L.t22
  have mixed := L.mixed
  go_enter L.f93, f93_ntmps
  cases base with
  | none =>
    go_wp2_with (at_builtin; refine Lib.wpList_append_run _ rfl _ _ _ _ rfl _ _ rfl rfl _ _ (hrun _) ?_)
    all_goals (go_ret; exact ⟨rfl, rfl⟩)
  | some a =>
    obtain ⟨ab, ao, asp⟩ := a
    go_wp2_with (at_builtin; refine Lib.wpList_append_run _ rfl _ _ _ _ rfl _ _ rfl rfl _ _ (hrun _) ?_)
    all_goals (go_ret; exact ⟨rfl, rfl⟩)

set_option maxHeartbeats 4000000 in
set_option maxRecDepth 100000 in
theorem ins_grow (L : LayI P) (b n c i vb vc : Nat) (vs news : List Value) (vx : Array Value) (et et' : TypeId) (w : World) (hi : i < n) (hnc : n ≤ c) (hroom : c < n + 1) (hbig : (n + 1) * 48 ≤ 140737488355328)
    (hw : w.heap[b]? = some (.cells vs.toArray et (0, 0))) (hvl : vs.length = c * 6) (hv : w.heap[vb]? = some (.cells vx et' (0, 0))) (hnl : news.length = 6) (hnv : ∀ (j : Nat) (v : Value), news[j]? = some v → vx[j]? = some v)
    (h1c : ∀ v ∈ vs.take (n * 6), oneV v = true) (h1v : ∀ v ∈ news, oneV v = true) :
    Calls P 93 #[.slice (some ⟨b, 0, none⟩) n c, .int .i64 i, .slice (some ⟨vb, 0, none⟩) 1 vc] w fun e w' =>
      ∃ (G : Nat) (rest : List Value), n + 1 ≤ G ∧ rest.length = (G - (n + 1)) * 6 ∧ e = .returned (.slice (some ⟨w.heap.size, 0, none⟩) (n + 1) G) ∧
        w'.heap = (w.heap.push (.cells (vs.take (i * 6) ++ news ++ (vs.drop (i * 6)).take ((n - i) * 6) ++ rest).toArray 36)) ∧ w'.os = w.os ∧ w'.tape = w.tape ∧ w'.output = w.output := by
  have t3 := L.t3; have a3 := L.a3; have z3 := L.z3; have t4 := L.t4; have a4 := L.a4; have z4 := L.z4; have z36 := L.z36; have t22 := L.t22; have a22 := L.a22; have z22 := L.z22
  have u3 := run_underlying L.t3; have u4 := run_underlying L.t4; have u22 := run_underlying L.t22
  have mixed := L.mixed
  obtain ⟨i0, z0, hi0, hz0, hsz0, hby0, hzc⟩ := L.i36
  have hz2 : ¬ ((i : Int) = (n : Int)) := by omega
  have hz3 : (c : Int) < (n : Int) + 1 := by omega
  have hsz : (P.info? 36).map (·.size) = some 6 := by rw [hi0]; simp [hsz0]
  have hbw : b < w.heap.size := (Array.getElem?_eq_some_iff.1 hw).1
  have hvw : vb < w.heap.size := (Array.getElem?_eq_some_iff.1 hv).1
  have hkk : (n : Int) + 1 - (i : Int) = ((n + 1 - i : Nat) : Int) := by omega
  have hik : i + (n + 1 - i) = n + 1 := by omega
  have hold : (Builtin.firstCells i0.size i (.slice (some ⟨b, 0, none⟩) i c)).run P w.drew = .ok (vs.take (i * 6)).toArray w.drew := by
    rw [hsz0]
    exact Go.Proofs.Ytbdcblpjemmipaa.Ex.run_firstCells (P := P) (w := w.drew) hw (vs.take (i * 6)) (by rw [List.length_take]; omega) (fun k hk => by
      rw [List.length_take] at hk
      rw [Nat.zero_add, List.getElem?_toArray, List.getElem?_take_of_lt (by omega)])
  obtain ⟨G, hG⟩ : ∃ G, G = grownCap w (n + 1) c 36 := ⟨_, rfl⟩
  obtain ⟨ROW, hROW⟩ : ∃ ROW : List Value, ROW = vs.take (i * 6) ++ (Builtin.zeroCells z0.cells (n + 1 - i)).toList ++ (Builtin.zeroCells z0.cells (G - (n + 1))).toList := ⟨_, rfl⟩
  have hrz : ∀ ty, (Builtin.append_ #[22, 3] ty #[.slice (some ⟨b, 0, none⟩) i c, .int .i64 ((n : Int) + 1 - (i : Int))]).run P w =
      .ok (.slice (some ⟨w.heap.size, 0, none⟩) (n + 1) G) (w.drew.alloc (.cells ROW.toArray 36)) := fun ty => by
    have h := Lib.run_append_grow_zeros w 22 3 ty 36 i0 _ .i64 .i64 L.t22 L.t3 hi0 hz0 (some ⟨b, 0, none⟩) i c (vs.take (i * 6)) hold (n + 1 - i) (by omega) (by omega) (by omega) (by omega) (by rw [hby0]; omega) (by rw [hby0, hik]; exact growslice_fits hroom hbig)
    rw [hik] at h
    rw [hkk, h, hROW, hG]
    congr 4
    apply Array.ext'
    simp
  have hGn : n + 1 ≤ G := by rw [hG]; exact grownCap_ge w _ _ _
  have hzl : ∀ k, (Builtin.zeroCells z0.cells k).toList.length = k * 6 := fun k => by rw [Array.length_toList, size_zeroCells, hzc]
  have htk : (vs.take (i * 6)).length = i * 6 := by rw [List.length_take]; omega
  have hRl : ROW.length = G * 6 := by rw [hROW]; simp only [List.length_append, hzl, htk]; omega
  have hRt : ROW.take (i * 6) = vs.take (i * 6) := by rw [hROW, List.append_assoc, List.take_append_of_le_length (by omega), List.take_take, Nat.min_self]
  have hG63 : G ≤ 9223372036854775807 := by
    have := grownCap_le_maxLen w (n + 1) c 36 (by unfold maxLen; omega)
    rw [← hG] at this
    unfold maxLen at this
    omega
  have hGi : ¬ (G = i) := by omega
  have hGim : ¬ (G = i + 1) := by omega
  have hci : ¬ (c = i) := by omega
  have hw1 : IntKind.i64.wrap ((i : Int) + 1) = (i : Int) + 1 := by rw [IntKind.wrap_i64]; omega
  have hb1 : (0 : Int) ≤ (i : Int) + 1 := by omega
  have hb5 : (i : Int) + 1 ≤ (n : Int) + 1 := by omega
  have hin : i ≤ n := by omega
  have htn : ((i : Int) + 1).toNat = i + 1 := by omega
  have hb3 : (i : Int) ≤ (n : Int) := by omega
  have hb6 : (i : Int) ≤ (n : Int) + 1 := by omega
  -- v into the new row
  obtain ⟨R1, hR1⟩ : ∃ R1 : List Value, R1 = ROW.take (i * 6) ++ news ++ ROW.drop (i * 6 + 6) := ⟨_, rfl⟩
  have hR1l : R1.length = G * 6 := by rw [hR1]; simp only [List.length_append, List.length_take, List.length_drop, hnl]; omega
  have hcpA : ∀ (W : World), W.heap[w.heap.size]? = some (.cells ROW.toArray 36 (0, 0)) → W.heap[vb]? = some (.cells vx et' (0, 0)) → ∀ ty dc, (Builtin.copy_ #[22, 22] ty #[.slice (some ⟨w.heap.size, i * 6, none⟩) (n + 1 - i) dc, .slice (some ⟨vb, 0, none⟩) 1 vc]).run P W =
      .ok (goInt 1) (W.setRow w.heap.size R1.toArray) := fun W hWb hWv ty dc => by
    have h := run_copyK W 22 22 ty 36 6 w.heap.size (i * 6) (n + 1 - i) dc ⟨vb, 0, none⟩ 1 vc ROW.toArray 36 news L.t22 hsz hWb
      (by rw [hnl]; simp only [Nat.min_def]; split <;> omega)
      (fun j v hj => by rw [Addr.add_lit, cell_in hWv, Nat.zero_add]; exact hnv j v hj)
      (by rw [hnl]; simp only [List.size_toArray]; omega) h1v
    have hmin : Nat.min 1 (n + 1 - i) = 1 := by simp only [Nat.min_def]; split <;> omega
    rw [hmin, hnl] at h
    rw [hR1]; exact h
  obtain ⟨R2, hR2⟩ : ∃ R2 : List Value, R2 = R1.take ((i + 1) * 6) ++ (vs.drop (i * 6)).take ((n - i) * 6) ++ R1.drop ((i + 1) * 6 + (n - i) * 6) := ⟨_, rfl⟩
  have htl : ((vs.drop (i * 6)).take ((n - i) * 6)).length = (n - i) * 6 := by rw [List.length_take, List.length_drop]; omega
  have hcpB : ∀ (W : World), W.heap[w.heap.size]? = some (.cells R1.toArray 36 (0, 0)) → W.heap[b]? = some (.cells vs.toArray et (0, 0)) → ∀ ty dc sc, (Builtin.copy_ #[22, 22] ty #[.slice (some ⟨w.heap.size, (i + 1) * 6, none⟩) (n - i) dc, .slice (some ⟨b, i * 6, none⟩) (n - i) sc]).run P W =
      .ok (goInt ((n - i : Nat) : Int)) (W.setRow w.heap.size R2.toArray) := fun W hWb hWv ty dc sc => by
    have h := run_copyK W 22 22 ty 36 6 w.heap.size ((i + 1) * 6) (n - i) dc ⟨b, i * 6, none⟩ (n - i) sc R1.toArray 36 ((vs.drop (i * 6)).take ((n - i) * 6)) L.t22 hsz hWb
      (by rw [htl]; simp only [Nat.min_def]; split <;> omega)
      (fun j v hj => by
        rw [List.getElem?_take] at hj
        split at hj
        · rw [Addr.add_lit, cell_in hWv, List.getElem?_toArray]; rwa [List.getElem?_drop] at hj
        · cases hj)
      (by rw [htl]; simp only [List.size_toArray]; omega) (fun v hv => h1c v (by rw [Nat.sub_mul, ← List.drop_take] at hv; exact List.mem_of_mem_drop hv))
    have hmin : Nat.min (n - i) (n - i) = n - i := by simp only [Nat.min_def]; split <;> omega
    rw [hmin, htl] at h
    rw [hR2]; exact h
  have hfin : ∃ rest : List Value, rest.length = (G - (n + 1)) * 6 ∧ R2 = vs.take (i * 6) ++ news ++ (vs.drop (i * 6)).take ((n - i) * 6) ++ rest := by
    refine ⟨R1.drop ((i + 1) * 6 + (n - i) * 6), by rw [List.length_drop]; omega, ?_⟩
    rw [hR2]
    have : R1.take ((i + 1) * 6) = vs.take (i * 6) ++ news := by
      rw [hR1, hRt, List.take_append_of_le_length (by rw [List.length_append]; omega), List.take_of_length_le (by rw [List.length_append]; omega)]
    rw [this]
  have hA1 : ((w.alloc (.cells ROW.toArray 36)).drew).heap[w.heap.size]? = some (.cells ROW.toArray 36 (0, 0)) := heap_alloc_new w _
  have hA2 : ((w.alloc (.cells ROW.toArray 36)).drew).heap[vb]? = some (.cells vx et' (0, 0)) := (heap_alloc_lt w _ vb hvw).trans hv
  have hA3 : ((w.alloc (.cells ROW.toArray 36)).drew).heap[b]? = some (.cells vs.toArray et (0, 0)) := (heap_alloc_lt w _ b hbw).trans hw
  have hB1 : ((((w.alloc (.cells ROW.toArray 36)).drew).setRow w.heap.size R1.toArray).drew).heap[w.heap.size]? = some (.cells R1.toArray 36 (0, 0)) := setRow_heap _ w.heap.size _ R1.toArray 36 _ hA1
  have hB2 : ((((w.alloc (.cells ROW.toArray 36)).drew).setRow w.heap.size R1.toArray).drew).heap[b]? = some (.cells vs.toArray et (0, 0)) := by
    show (World.setRow _ _ _).heap[b]? = _
    simp only [World.setRow, Array.getElem?_modify]
    rw [if_neg (by omega)]; exact hA3
  have hend : ((((w.alloc (.cells ROW.toArray 36)).drew).setRow w.heap.size R1.toArray).drew.setRow w.heap.size R2.toArray).heap = w.heap.push (.cells R2.toArray 36) := by
    apply Array.ext_getElem?
    intro k
    show (World.setRow _ _ _).heap[k]? = _
    simp only [World.setRow, Array.getElem?_modify, Array.getElem?_push]
    by_cases hk : w.heap.size = k
    · subst hk
      rw [if_pos rfl, if_pos rfl]
      show Option.map _ ((World.setRow _ _ _).heap[w.heap.size]?) = _
      simp only [World.setRow, Array.getElem?_modify, if_true]
      rw [hA1]; rfl
    · rw [if_neg hk, if_neg (fun e => hk e.symm)]
      show (World.setRow _ _ _).heap[k]? = _
      simp only [World.setRow, Array.getElem?_modify, if_neg hk]
      show (w.heap.push _)[k]? = _
      rw [Array.getElem?_push, if_neg (fun e => hk e.symm)]
  have hcpA' := hcpA _ hA1 hA2
  have hcpB' := hcpB _ hB1 hB2
  clear hcpA hcpB hA1 hA2 hB1 hB2 hkk hik hold hROW hG hRl hRt hR1 hR1l hR2 htl hzl htk hA3
  go_enter L.f93, f93_ntmps
  go_wp2_with (first
    | (at_builtin; refine Lib.wpList_append_run _ rfl _ _ _ _ rfl _ _ rfl rfl _ _ (hrz _) ?_)
    | fail)
  go_region_law_o (refine step_copy_runI rfl _ _ 22 22 rfl (.slice (some ⟨w.heap.size, (i + 1) * 6, none⟩) (n - i) (G - (i + 1))) (.slice (some ⟨b, i * 6, none⟩) (n - i) (c - i)) (by simp [Act.eval, Act.put]) (by simp [Act.eval, Act.put]) (hcpB' 3 (G - (i + 1)) (c - i)) ?_)
  go_wp2
  go_ret
  obtain ⟨rest, hrl, hfin⟩ := hfin
  exact ⟨G, rest, hGn, hrl, rfl, by rw [← hfin]; exact hend, rfl, rfl, rfl⟩
end Go.Proofs.Ytbdcblpjemmipaa.Ex

namespace Go.Proofs.Ytbdcblpjemmipaa.Ex
open Go.Proofs
set_option maxRecDepth 100000
set_option maxHeartbeats 2000000
set_option linter.unusedVariables false
set_option linter.unusedSimpArgs false
set_option linter.unusedSectionVars false
def only1 {α : Type} : List α → Option α
  | [x] => some x
  | _ => none
theorem only1_some {α : Type} {l : List α} {x : α} (h : only1 l = some x) : l = [x] := by
  unfold only1 at h
  split at h
  · cases h; rfl
  · cases h
def insP (args : List AV) : Prog AV := match args with
  | [.row id, .int .i64 i, .row id2] => bif Nat.beq id id2 then .fail else .get id fun
    | .row e1 l1 => .opt (castL e1 tEn l1) fun l => .get id2 fun
      | .row e2 l2 => .opt (castL e2 tEn l2) fun l' => .opt (only1 l') fun x =>
        .ite (decide (0 ≤ i ∧ i ≤ (l.length : Nat) ∧ (l.length + 2) * 48 ≤ lim)) (.del id (.new (.row tEn (l.take i.toNat ++ x :: l.drop i.toNat)) fun id' => .ret (.row id'))) .fail
      | .box _ => .fail
    | .box _ => .fail
  | _ => .fail
variable {P : Program}
theorem ins_erep {S : Stb} {l : List (D tEn)} {x : D tEn} {vs news rest : List Value} (hr : ERep S tEn vs.toArray 0 l) (hs : l.length * 6 ≤ vs.length) (hn : news.length = 6) (h2 : ERep S tEn news.toArray 0 [x]) {i : Nat} (hi : i ≤ l.length) :
    ERep S tEn (vs.take (i * 6) ++ news ++ (vs.drop (i * 6)).take ((l.length - i) * 6) ++ rest).toArray 0 (l.take i ++ x :: l.drop i) := by
  have h6 : (eTy tEn).size = 6 := rfl
  have ho : ERep S tEn (vs.take (l.length * 6)).toArray 0 l := fun q hq => by
    obtain ⟨cs, k1, k2, k3⟩ := hr q hq
    refine ⟨cs, k1, fun j hj => ?_, k3⟩
    have := k2 j hj
    rw [List.getElem?_toArray] at this ⊢
    rw [h6] at *
    rw [← this, List.getElem?_take_of_lt (by omega)]
  have hol : (vs.take (l.length * 6)).length = l.length * (eTy tEn).size := by rw [List.length_take, h6]; omega
  have a1 := ERep.take ho hol i hi
  have a2 := ERep.drop ho hol i hi
  rw [h6, List.take_take, Nat.min_eq_left (by omega)] at a1
  rw [h6, List.drop_take, ← Nat.sub_mul] at a2
  have b1 := ERep.append a1 (by rw [List.length_take, List.length_take, h6]; omega) h2 (by rw [hn]; rfl) []
  rw [List.append_nil] at b1
  have b2 := ERep.append b1 (by rw [List.length_append, List.length_append, List.length_take, List.length_take, h6, hn, List.length_singleton]; omega) a2
    (by rw [List.length_take, List.length_drop, List.length_drop, h6]; omega) rest
  rw [List.append_assoc (l.take i)] at b2
  exact b2
theorem ins_sound (L : LayI P) (hf : P.funcs[93]? = some Try.f93) (hname : (Try.f93.name == "runtime.NumGoroutine") = false) : SoundA P 93 insP := by
  intro tr args h ft v h' ft' vals hdr S w ok ev hr hm hv hids hO
  have hbody : ∃ c, Try.f93.body = some c := ⟨_, rfl⟩
  obtain ⟨c0, hb0⟩ := hbody
  refine ⟨fun args w => MuLone.run_callFunc_enter hf hname hb0 args w, ?_⟩
  unfold insP at ev
  split at ev
  case h_2 => exact (ex_fail ev).elim
  rename_i id i id2
  rcases ex_cond ev with ⟨_, ev⟩ | ⟨hne, ev⟩
  · exact (ex_fail ev).elim
  obtain ⟨b1, hb1, ev⟩ := ex_get ev
  split at ev
  case h_2 => exact (ex_fail ev).elim
  rename_i e1 l1
  obtain ⟨l, h2, ev⟩ := ex_opt ev
  obtain ⟨he, hl⟩ := castL_eq h2
  subst he
  simp only at hl
  subst hl
  obtain ⟨b2, hb2, ev⟩ := ex_get ev
  split at ev
  case h_2 => exact (ex_fail ev).elim
  rename_i e2 l2
  obtain ⟨l', h3, ev⟩ := ex_opt ev
  obtain ⟨he, hl⟩ := castL_eq h3
  subst he
  simp only at hl
  subst hl
  obtain ⟨x, h4, ev⟩ := ex_opt ev
  obtain rfl := only1_some h4
  rcases ex_ite ev with ⟨hc, ev⟩ | ⟨_, ev⟩
  case inr => exact (ex_fail ev).elim
  obtain ⟨hi0, hi1, hlim⟩ := of_decide_eq_true hc
  obtain ⟨_, ev⟩ := ex_del ev
  have ev := ex_new ev
  cases ex_ret ev
  have hidne : id ≠ id2 := fun e => by rw [e, nb_self] at hne; cases hne
  obtain ⟨k, rfl⟩ : ∃ k : Nat, i = (k : Int) := ⟨i.toNat, by omega⟩
  rw [Int.toNat_natCast] at *
  have hk : k ≤ l1.length := by omega
  have hlim48 : (l1.length + 2) * 48 ≤ lim := hlim
  have hbig : (l1.length + 1) * 48 ≤ 140737488355328 := by unfold lim at hlim48; omega
  -- the arguments
  cases hv with | cons _ _ _ _ hx hvn =>
  cases hvn with | cons _ _ _ _ hx2 hvn =>
  cases hvn with | cons _ _ _ _ hx3 hvn =>
  cases hvn
  cases hx2
  cases hx with | row _ ao len cap hh =>
  cases hx3 with | row _ ao2 len2 cap2 hh2 =>
  have br2 := hr.blk id2 _ hb2
  cases br2 with
  | row _ _ vb capv vx etv hhv hcv hwv hlv hsv hrv =>
  rw [hh2] at hhv
  cases hhv
  obtain ⟨news, n1, n2, n3⟩ := hrv.news
  have n1 : news.length = 6 := n1
  have hnv : ∀ (j : Nat) (u : Value), news[j]? = some u → vx[j]? = some u := fun j u hj => by
    have := n2 j (List.getElem?_eq_some_iff.1 hj).1
    rw [Nat.zero_add] at this
    rw [this]; exact hj
  have n4 : ∀ u ∈ news, oneV u = true := n3.ones (by rw [n1]; rfl)
  have hblk2 : blkOf (hdr id2) = some vb := by
    rw [hh2]
    cases cap2 with
    | zero => omega
    | succ n => rfl
  have pdel := post_del (tr := tr) hr hm id _ hb1 S (fun _ _ k => k) (fun _ _ k => .inl k)
  have mdel : Ment ok (delB h.blks id) := pdel.ment.mono fun n k => okn_self k
  obtain ⟨inf, z, q1, q4, q2, q3, q5⟩ := L.i36
  have fc : ∀ w1 : World, w1.heap = w.heap → (Builtin.firstCells inf.size 1 (.slice (some ⟨vb, 0, none⟩) 1 cap2)).run P w1 = .ok news.toArray w1 := fun w1 hw1 => by
    rw [q2]; exact Go.Proofs.Ytbdcblpjemmipaa.Ex.run_firstCells (w := w1) (by rw [hw1]; exact hwv) news n1 n2
  -- a new row
  have fresh : ∀ (w' : World) (G : Nat) (cs : List Value), l1.length + 1 ≤ G → cs.length = G * 6 → w'.heap = w.heap.push (.cells cs.toArray 36) → w'.os = w.os → w'.tape = w.tape → w'.output = w.output → ERep S tEn cs.toArray 0 (l1.take k ++ x :: l1.drop k) →
      ∃ u hdr' S', Ending.returned (.slice (some ⟨w.heap.size, 0, none⟩) (l1.length + 1) G) = .returned u ∧ Post tr ok hdr S h w hdr' S' ⟨(h.c, .row tEn (l1.take k ++ x :: l1.drop k)) :: delB h.blks id, h.c + 1⟩ w' ∧ VRep hdr' S' (.row h.c) u ∧ ∀ n ∈ (AV.row h.c).ids, okn ok h.c (h.c + 1) n := by
    intro w' G cs hG hcl hheap hos htape hout hre
    have hll : (l1.take k ++ x :: l1.drop k).length = l1.length + 1 := by simp only [List.length_append, List.length_take, List.length_cons, List.length_drop]; omega
    have pnew := post_new' (tr := tr) pdel.real mdel hO (.row tEn (l1.take k ++ x :: l1.drop k)) (fun n hn => by cases hn) w' hos htape hout (by rw [hheap, Array.size_push]; omega)
      (fun n hn => by rw [hheap, Array.getElem?_push, if_neg (by omega)]) (.slice (some ⟨w.heap.size, 0, none⟩) (l1.length + 1) G) (by cases G with | zero => omega | succ n => exact .inr rfl)
      (fun hdr' _ g2 => .row tEn _ w.heap.size G cs.toArray 36 (by rw [hll]; exact g2) (by omega) (by rw [hheap, Array.getElem?_push, if_pos rfl]) (by rw [hll]; exact hG) (by simpa using (show cs.length = G * (eTy tEn).size from hcl)) hre)
    refine ⟨_, _, _, rfl, pdel.trans (pnew.weaken fun _ k => .inl k), .row _ _ _ _ (hdrN_same _ _ _), fun n hn => ?_⟩
    simp [AV.ids] at hn; subst hn; exact .inr ⟨Nat.le_refl _, Nat.lt_succ_self _⟩
  have br := hr.blk id _ hb1
  cases br with
  | rowNil _ a0 hh' =>
    rw [hh] at hh'
    cases hh'
    obtain rfl : k = 0 := by simp at hk; exact hk
    have hfo : (Builtin.firstCells inf.size 0 (.slice ao 0 0)).run P w.drew = .ok ([] : List Value).toArray w.drew := by
      cases ao <;> simp [Builtin.firstCells, loadCells, loadCellsFrom]
    have hrun : ∀ ty, (Builtin.append_ #[22, 22] ty #[.slice ao 0 0, .slice (some ⟨vb, 0, none⟩) 1 cap2]).run P w = _ := fun ty => (run_append (ty := ty) L.t22 q1 q4 hfo (fc w.drew rfl) (fc w rfl) (by omega) (by rw [q3]; simpa using hlim48)).2 (by omega)
    refine (ins_end L ao 0 0 vb cap2 w _ _ hrun).mono ?_
    rintro en w' ⟨rfl, rfl⟩
    have hge := grownCap_ge w (0 + 1) 0 36
    refine fresh _ (grownCap w (0 + 1) 0 36) ([] ++ news ++ (Builtin.zeroCells z.cells (grownCap w (0 + 1) 0 36 - (0 + 1))).toList) hge ?_ ?_ rfl rfl rfl ?_
    · have hzc := size_zeroCells z.cells (grownCap w (0 + 1) 0 36 - (0 + 1))
      simp only [List.nil_append, List.length_append, n1, Array.length_toList, hzc, q5]; omega
    · show (w.heap.push _) = _
      congr 2
      apply Array.ext'; simp
    · exact ERep.append (S := S) (l1 := ([] : List (D tEn))) (c1 := []) (fun i hi => absurd hi (by simp)) (by simp) n3 (by rw [n1]; rfl) _
  | row _ _ b cap' vsA et hh' hcap hw hle hs hre =>
    rw [hh] at hh'
    cases hh'
    have hs : vsA.size = cap * 6 := hs
    have hblk : blkOf (hdr id) = some b := by
      rw [hh]
      cases cap with
      | zero => omega
      | succ n => rfl
    have hvb : vb ≠ b := fun e => hr.sep id id2 _ _ b hidne hb1 hb2 hblk (by rw [hblk2, e])
    have hwL : w.heap[b]? = some (.cells vsA.toList.toArray et (0, 0)) := by simpa using hw
    have hvl : vsA.toList.length = cap * 6 := by simpa using hs
    have hreL : ERep S tEn vsA.toList.toArray 0 l1 := by simpa using hre
    -- in place
    have inplace : ∀ (w' : World) (rest : List Value), l1.length + 1 ≤ cap → w'.heap[b]? = some (.cells (vsA.toList.take (k * 6) ++ news ++ (vsA.toList.drop (k * 6)).take ((l1.length - k) * 6) ++ rest).toArray et (0, 0)) → rest.length = (cap - (l1.length + 1)) * 6 →
        w'.os = w.os → w'.tape = w.tape → w'.output = w.output → w'.heap.size = w.heap.size → (∀ n, n ≠ b → w'.heap[n]? = w.heap[n]?) →
      ∃ u hdr' S', Ending.returned (.slice (some ⟨b, 0, none⟩) (l1.length + 1) cap) = .returned u ∧ Post tr ok hdr S h w hdr' S' ⟨(h.c, .row tEn (l1.take k ++ x :: l1.drop k)) :: delB h.blks id, h.c + 1⟩ w' ∧ VRep hdr' S' (.row h.c) u ∧ ∀ n ∈ (AV.row h.c).ids, okn ok h.c (h.c + 1) n := by
      intro w' rest hroom hheap hrl hos htape hout hsz hoth
      have hll : (l1.take k ++ x :: l1.drop k).length = l1.length + 1 := by simp only [List.length_append, List.length_take, List.length_cons, List.length_drop]; omega
      have hre2 := ins_erep (rest := rest) hreL (by omega) n1 n3 hk
      refine ⟨_, _, _, rfl, post_rehead hr hm hO id (.row tEn (l1.take k ++ x :: l1.drop k)) _ hb1 (fun n hn => by cases hn) w' b (.slice (some ⟨b, 0, none⟩) (l1.length + 1) cap) hblk
        (by cases cap with | zero => omega | succ n => rfl) hos htape hout hsz hoth
        (fun hdr' _ g2 => .row tEn _ b cap _ et (by rw [hll]; exact g2) hcap hheap (by rw [hll]; exact hroom) (by
          show _ = cap * 6
          simp only [List.size_toArray, List.length_append, List.length_take, List.length_drop, n1, hrl]; omega) hre2), .row _ _ _ _ (hdrN_same _ _ _), fun n hn => ?_⟩
      simp [AV.ids] at hn; subst hn; exact .inr ⟨Nat.le_refl _, Nat.lt_succ_self _⟩
    obtain ⟨olds, o1, o2, o3⟩ := hre.news
    have o1 : olds.length = l1.length * 6 := o1
    have holds : vsA.toList.take (l1.length * 6) = olds := by
      refine List.ext_getElem? fun q => ?_
      by_cases hq : q < l1.length * 6
      · rw [List.getElem?_take_of_lt hq, Array.getElem?_toList]
        have := o2 q (by omega)
        rwa [Nat.zero_add] at this
      · rw [List.getElem?_eq_none (by rw [List.length_take]; omega), List.getElem?_eq_none (by omega)]
    have hones : ∀ u ∈ vsA.toList.take (l1.length * 6), oneV u = true := by rw [holds]; exact o3.ones o1
    by_cases hkn : k = l1.length
    · subst hkn
      have hfo : (Builtin.firstCells inf.size l1.length (.slice (some ⟨b, 0, none⟩) l1.length cap)).run P w.drew = .ok olds.toArray w.drew := by
        rw [q2]; exact Go.Proofs.Ytbdcblpjemmipaa.Ex.run_firstCells (w := w.drew) hw olds o1 o2
      have hra := fun ty => run_append (ty := ty) L.t22 q1 q4 hfo (fc w.drew rfl) (fc w rfl) (by omega) (by rw [q3]; exact hlim48)
      by_cases hroom : l1.length + 1 ≤ cap
      · obtain ⟨w', g1, a1, a2, a3, a4, a5, a6⟩ := run_storeCells_in P b et news w vsA.toList (l1.length * 6) 0 hwL (by omega) n4
        simp only [Nat.add_zero] at a6
        have hrun : ∀ ty, (Builtin.append_ #[22, 22] ty #[.slice (some ⟨b, 0, none⟩) l1.length cap, .slice (some ⟨vb, 0, none⟩) 1 cap2]).run P w = .ok (.slice (some ⟨b, 0, none⟩) (l1.length + 1) cap) w' := fun ty => by
          rw [(hra ty).1 hroom, q2]
          simp only [stAt, add_mk, Nat.zero_add, g1, Result.andThen_ok]
        refine (ins_end L _ _ _ vb cap2 w _ _ hrun).mono ?_
        rintro en w'' ⟨rfl, rfl⟩
        refine inplace _ (vsA.toList.drop (l1.length * 6 + news.length)) hroom ?_ (by rw [List.length_drop, n1]; omega) a1 a2 a3 a4 a5
        rw [a6, Nat.sub_self, Nat.zero_mul, List.take_zero, List.append_nil]
      · refine (ins_end L _ _ _ vb cap2 w _ _ (fun ty => (hra ty).2 (by omega))).mono ?_
        rintro en w' ⟨rfl, rfl⟩
        have hge := grownCap_ge w (l1.length + 1) cap 36
        refine fresh _ (grownCap w (l1.length + 1) cap 36) (olds ++ news ++ (Builtin.zeroCells z.cells (grownCap w (l1.length + 1) cap 36 - (l1.length + 1))).toList) hge ?_ ?_ rfl rfl rfl ?_
        · have hzc := size_zeroCells z.cells (grownCap w (l1.length + 1) cap 36 - (l1.length + 1))
          simp only [List.length_append, n1, o1, Array.length_toList, hzc, q5]; omega
        · show (w.heap.push _) = _
          congr 2
          apply Array.ext'; simp
        · rw [List.take_length, List.drop_length]
          exact ERep.append o3 o1 n3 (by rw [n1]; rfl) _
    · by_cases hroom : l1.length + 1 ≤ cap
      · refine (ins_shift L b l1.length cap k vb cap2 vsA.toList news vx et etv w (by omega) hroom hbig hvb hwL hvl hwv n1 hnv hones n4).mono ?_
        rintro en w' ⟨rfl, rfl⟩
        refine inplace _ (vsA.toList.drop ((l1.length + 1) * 6)) hroom ?_ (by rw [List.length_drop]; omega) rfl rfl rfl ?_ ?_
        · exact setRow_heap w.drew b _ _ et _ hw
        · simp [World.setRow]
        · intro n hn
          show (World.setRow _ _ _).heap[n]? = _
          simp only [World.setRow, Array.getElem?_modify]
          rw [if_neg (fun e => hn e.symm)]; rfl
      · refine (ins_grow L b l1.length cap k vb cap2 vsA.toList news vx et etv w (by omega) hle (by omega) hbig hwL hvl hwv n1 hnv hones n4).mono ?_
        rintro en w' ⟨G, rest, hG, hrl, rfl, hheap, hos, htape, hout⟩
        exact fresh w' G _ hG (by
          simp only [List.length_append, List.length_take, List.length_drop, n1, hrl]; omega) hheap hos htape hout (ins_erep hreL (by omega) n1 n3 hk)
end Go.Proofs.Ytbdcblpjemmipaa.Ex

namespace Go.Proofs.Ytbdcblpjemmipaa.Ex
open Go.Proofs
theorem tyOk (t : TypeId) (i : TInfo) (h : tiL tab t = some i) : TyOk Try.prog tab t i := tabOk_of tab_ok t i h
theorem layI : LayI Try.prog := {
  mixed := mixed
  f93 := Try.func93
  f123 := Try.func123
  t3 := by kernel_rfl
  a3 := fun w => (tyOk 3 _ rfl).isAgg w
  z3 := fun w => (tyOk 3 _ rfl).sizeOf w
  t4 := by kernel_rfl
  a4 := fun w => (tyOk 4 _ rfl).isAgg w
  z4 := fun w => (tyOk 4 _ rfl).sizeOf w
  z36 := fun w => (tyOk 36 _ rfl).sizeOf w
  t22 := by kernel_rfl
  a22 := fun w => (tyOk 22 _ rfl).isAgg w
  z22 := fun w => (tyOk 22 _ rfl).sizeOf w
  i36 := by
    obtain ⟨i, z, h1, h2, h3, h4, h5⟩ := (tyOk 36 _ rfl).info
    refine ⟨i, z, h1, h4, h2, h3, ?_⟩
    have := congrArg List.length h5
    rw [zvals_len] at this
    exact (by simpa using this : z.cells.size = _) }

noncomputable def con_slices_Insert_Entry : List AV → Prog AV := insP
theorem snd_slices_Insert_Entry : SoundA Try.prog 93 con_slices_Insert_Entry := ins_sound layI Try.func93 (by kernel_rfl)
end Go.Proofs.Ytbdcblpjemmipaa.Ex

namespace Go.Proofs.Ytbdcblpjemmipaa.Ex
open Go.Proofs Go.Proofs.Ytbdcblpjemmipaa
set_option maxRecDepth 100000
set_option maxHeartbeats 2000000
set_option linter.unusedVariables false
set_option linter.unusedSimpArgs false
abbrev ty_154_0 : Type := ((Unit × ((List En) × (Int × (Int × Unit)))) × ((List En) × Unit))
abbrev fn_154_0 := (fun (d : ty_154_0) => ((d.1.2.1, d.1.2.2.1, d.1.2.2.2.1, d.2.1) : ((List En) × Int × Int × (List En))))
abbrev fn_154_1 := (fun (x : (List En)) => ((((), ()), (x, ())) : ((Unit × Unit) × ((List En) × Unit))))
def ash_tab_Add : List Sh := [.dat (.sl tEn), .dat (.sl tEn)]
def kp_tab_Add_20_0 : Nat → List Nat := fun c => bif c.beq 0 then [5, 10, 11, 12] else [5]
noncomputable def sp_tab_Add : Nat → Option (List AV → Prog AV)
  | 52 => some (con_slices_Clone_Entry)
  | 92 => some (con_itv_Empty)
  | 60 => some (con_tab_find)
  | 93 => some (con_slices_Insert_Entry)
  | _ => none
theorem hsp_tab_Add : ∀ g p, sp_tab_Add g = some p → SoundA Try.prog g p := by
  intro g p h
  unfold sp_tab_Add at h
  split at h
  · cases h; exact snd_slices_Clone_Entry
  · cases h; exact snd_itv_Empty
  · cases h; exact snd_tab_find
  · cases h; exact snd_slices_Insert_Entry
  · cases h
noncomputable def cx_tab_Add0 : Ctx := { tab := tab, spec := sp_tab_Add, inl := inl, lps := fun _ _ => none, fuel := 40 }
theorem in_tab_Add0 : InlOk Try.prog cx_tab_Add0 := ⟨inl_ok, fun _ _ _ _ _ _ _ _ h => nomatch h⟩
theorem cal_tab_Add0 (g : Nat) : SoundA Try.prog g (evF cx_tab_Add0 keeps 8 g) := evF_sound (tabOk_of tab_ok) (cmpsOk_of tab_ok cmps_ok) mixed in_tab_Add0 hsp_tab_Add keeps 8 g
noncomputable def F_tab_Add_20_0 (base : Nat) : Tm → Prog (Nat × Tm) := evC cx_tab_Add0 (evF cx_tab_Add0 keeps 8) ⟨20, 21, keeps 20, base⟩ 0 (bodyX 20 0)
def s_tab_Add_20_0_0 : StS := ⟨[(5, .row 0), (10, .sl tEn), (11, .int .i64), (12, .int .i64)], [(0, .row tEn)], 1⟩
def x_tab_Add_20_0_0_0 : StS := ⟨[(5, .row 0)], [(0, .row tEn)], 1⟩
noncomputable def st_tab_Add_20_0_0 (s10 : (List En)) (s11 : Int) (s12 : Int) (b0 : (List En)) : Option (((List En) × Int × Int × (List En)) ⊕ (List En)) :=
  bif decide (s12 < s11) then
 bif decide (0 ≤ s12) then
 optC s10[s12.toNat]? none fun d6 ↦
 bif decide (d6.2.2.2.2.1 > d6.2.2.2.2.2) then some (Sum.inl (s10, s11, Go.IntKind.i64.wrap (s12 + 1), b0))
 else
 optC (G_tab_find (b0, d6, ())) none fun d7 ↦
 bif !d7.2.1 then
 bif decide (0 ≤ d7.1 ∧ d7.1 ≤ (↑b0.length : Int) ∧ (b0.length + 2) * 48 ≤ lim) then
 some (Sum.inl (s10, s11, Go.IntKind.i64.wrap (s12 + 1), List.take (Int.toNat d7.1) b0 ++ d6 :: List.drop (Int.toNat d7.1) b0))
 else none
 else
 bif decide (0 ≤ d7.1) then
 optC b0[Int.toNat d7.1]? none fun d8 ↦
 optC b0[Int.toNat d7.1]? none fun d9 ↦
 bif decide (d9.2.2.2.2.1 > d9.2.2.2.2.2) then
 bif decide (d6.2.2.2.2.1 > d6.2.2.2.2.2) then
 bif decide (0 ≤ d7.1) then
 optC b0[Int.toNat d7.1]? none fun d10 ↦
 optC b0[Int.toNat d7.1]? none fun d11 ↦
 some (Sum.inl (s10, s11, Go.IntKind.i64.wrap (s12 + 1), b0.set (Int.toNat d7.1) (d11.1, d11.2.1, d11.2.2.1, d11.2.2.2.1, 1, 0)))
 else none
 else
 bif decide (0 ≤ d7.1) then
 optC b0[Int.toNat d7.1]? none fun d10 ↦
 optC b0[Int.toNat d7.1]? none fun d11 ↦
 some (Sum.inl (s10, s11, Go.IntKind.i64.wrap (s12 + 1), b0.set (Int.toNat d7.1) (d11.1, d11.2.1, d11.2.2.1, d11.2.2.2.1, d6.2.2.2.2)))
 else none
 else
 bif decide (d6.2.2.2.2.1 > d6.2.2.2.2.2) then
 bif decide (0 ≤ d7.1) then
 optC b0[Int.toNat d7.1]? none fun d10 ↦
 optC b0[Int.toNat d7.1]? none fun d11 ↦
 some (Sum.inl (s10, s11, Go.IntKind.i64.wrap (s12 + 1), b0.set (Int.toNat d7.1) (d11.1, d11.2.1, d11.2.2.1, d11.2.2.2.1, d9.2.2.2.2)))
 else none
 else
 bif decide (d9.2.2.2.2.1 > d9.2.2.2.2.2) then
 bif decide (0 ≤ d7.1) then
 optC b0[Int.toNat d7.1]? none fun d10 ↦
 optC b0[Int.toNat d7.1]? none fun d11 ↦
 some
 (Sum.inl (s10, s11, Go.IntKind.i64.wrap (s12 + 1), b0.set (Int.toNat d7.1) (d11.1, d11.2.1, d11.2.2.1, d11.2.2.2.1, d6.2.2.2.2)))
 else none
 else
 bif decide (0 ≤ d7.1) then
 optC b0[Int.toNat d7.1]? none fun d10 ↦
 optC b0[Int.toNat d7.1]? none fun d11 ↦
 some
 (Sum.inl
 (s10, s11, Go.IntKind.i64.wrap (s12 + 1),
 b0.set (Int.toNat d7.1)
 (d11.1, d11.2.1, d11.2.2.1, d11.2.2.2.1,
 if d6.2.2.2.2.1 < d9.2.2.2.2.1 then d6.2.2.2.2.1 else d9.2.2.2.2.1,
 if d6.2.2.2.2.2 > d9.2.2.2.2.2 then d6.2.2.2.2.2 else d9.2.2.2.2.2)))
 else none
 else none
 else none
 else some (Sum.inr b0)
theorem rn_tab_Add_20_0_0 (s10 : (List En)) (s11 : Int) (s12 : Int) (b0 : (List En)) : rdX cx_tab_Add0 keeps 8 ⟨20, 21, keeps 20, 0⟩ 0 (bodyX 20 0) 0 kp_tab_Add_20_0 (sT s_tab_Add_20_0_0 (((), s10, s11, s12, ()), (b0, ()))) (sH s_tab_Add_20_0_0 (((), s10, s11, s12, ()), (b0, ()))) (rdO (fun T h => (rdS s_tab_Add_20_0_0 T h).map fn_154_0) (getE 2 x_tab_Add_20_0_0_0 (fun (d : ((Unit × Unit) × ((List En) × Unit))) => ((d.2.1) : (List En))))) = st_tab_Add_20_0_0 s10 s11 s12 b0 := by kernel_rfl
noncomputable def L_tab_Add_20_0_0 (x : ((List En) × Int × Int × (List En))) : Option (List En) := iterO (fun x => st_tab_Add_20_0_0 x.1 x.2.1 x.2.2.1 x.2.2.2) FUEL x
noncomputable def q_tab_Add_20_0 : Nat → Tm → Prog (Nat × Tm) := (varP 0 (fun T h => (rdS s_tab_Add_20_0_0 T h).map fn_154_0) L_tab_Add_20_0_0 (altE 2 x_tab_Add_20_0_0_0 fn_154_1) (fun _ _ => .fail))
theorem ok_tab_Add_20_0 : VarOk kp_tab_Add_20_0 F_tab_Add_20_0 q_tab_Add_20_0 := (varX_ok (s := s_tab_Add_20_0_0) (un := (fun (x : ((List En) × Int × Int × (List En))) => ((((), x.1, x.2.1, x.2.2.1, ()), (x.2.2.2, ())) : ty_154_0))) (by rfl) (fun _ => rfl) (getE_ok (s := x_tab_Add_20_0_0_0) (un := fn_154_1) (by rfl) (fun _ => rfl)) (step := fun x => st_tab_Add_20_0_0 x.1 x.2.1 x.2.2.1 x.2.2.2) (fun x => rn_tab_Add_20_0_0 x.1 x.2.1 x.2.2.1 x.2.2.2) (fun _ _ e => ⟨_, e⟩) (altE_ok 2 x_tab_Add_20_0_0_0 fn_154_1) (VarOk.fail _ _))
noncomputable def lpI_tab_Add_20_0 (base : Nat) (T : Tm) : Prog (Nat × Tm) := .norm base (kp_tab_Add_20_0 0) T (q_tab_Add_20_0 base)
theorem sndI_tab_Add_20_0 : SoundC Try.prog 21 (.loop (bodyX 20 0)) lpI_tab_Add_20_0 := loopK_sound (cx := cx_tab_Add0) (cal := evF cx_tab_Add0 keeps 8) (kp := keeps 20) (tabOk_of tab_ok) (cmpsOk_of tab_ok cmps_ok) cal_tab_Add0 mixed (hl_of (g := 20) (b := 0) in_tab_Add0 (by kernel_rfl) (by kernel_rfl)) ok_tab_Add_20_0
noncomputable def lpL_tab_Add_20_0 : Nat → Tm → Prog (Nat × Tm) := lpI_tab_Add_20_0
theorem sndL_tab_Add_20_0 : SoundC Try.prog 21 (.loop (bodyX 20 0)) lpL_tab_Add_20_0 := sndI_tab_Add_20_0
noncomputable def lp_tab_Add : Nat → Nat → Option (Nat → Tm → Prog (Nat × Tm))
  | 20, 0 => some lpL_tab_Add_20_0
  | _, _ => none
noncomputable def cx_tab_Add : Ctx := { tab := tab, spec := sp_tab_Add, inl := inl, lps := lp_tab_Add, fuel := 40 }
theorem in_tab_Add : InlOk Try.prog cx_tab_Add := ⟨inl_ok, fun g fn c hg hb q hq p hp => by
  change lp_tab_Add g q.1 = some p at hp
  change inl g = some fn at hg
  generalize hq1 : q.1 = b at hp
  unfold lp_tab_Add at hp
  split at hp
  · cases hp; exact lps_case (inl := inl) hg hb hq hq1 (by kernel_rfl) (by kernel_rfl) sndL_tab_Add_20_0
  · cases hp⟩
theorem cal_tab_Add (g : Nat) : SoundA Try.prog g (evF cx_tab_Add keeps 8 g) := evF_sound (tabOk_of tab_ok) (cmpsOk_of tab_ok cmps_ok) mixed in_tab_Add hsp_tab_Add keeps 8 g
noncomputable def g_tab_Add (a0 : (List En)) (a1 : (List En)) : Option (List En) :=
  bif decide (((List.length (α := I) []) + a0.length + 1) * 48 ≤ lim) then optC (L_tab_Add_20_0_0 (a1, (↑a1.length : Int), 0, [] ++ a0)) none fun d4 ↦ some d4 else none
theorem raw_tab_Add (a0 : (List En)) (a1 : (List En)) : evRX cx_tab_Add keeps 8 20 ash_tab_Add tEn ((a0, a1, ()) : ((List En) × ((List En) × Unit))) = g_tab_Add a0 a1 := by kernel_rfl
noncomputable def G_tab_Add (x : ((List En) × ((List En) × Unit))) : Option (List En) := g_tab_Add x.1 x.2.1
noncomputable def con_tab_Add : List AV → Prog AV := conR false ash_tab_Add tEn G_tab_Add
theorem snd_tab_Add : SoundA Try.prog 20 con_tab_Add := conR_sound (cal_tab_Add 20) false (by rfl) (fun x r e => (evRX_eq _ _ _ _ _ _ _).trans ((raw_tab_Add x.1 x.2.1).trans e)) (.inr (by rfl))
end Go.Proofs.Ytbdcblpjemmipaa.Ex

namespace Go.Proofs.Ytbdcblpjemmipaa.Ex
set_option maxRecDepth 100000
set_option maxHeartbeats 2000000
set_option linter.unusedVariables false
set_option linter.unusedSimpArgs false
noncomputable def bd_tab_Add_20_0_0  (s10 : (List En)) (i : Nat) (b0 : (List En)) (d : En) : Option ((List En) ⊕ (List En)) :=
  bif decide (d.2.2.2.2.1 > d.2.2.2.2.2) then
   some (Sum.inl (b0))
 else optC (G_tab_find (b0, d, ())) (none) fun d7 ↦
   bif !d7.2.1 then
   bif decide (0 ≤ d7.1 ∧ d7.1 ≤ (↑b0.length : Int) ∧ (b0.length + 2) * 48 ≤ lim) then
   some (Sum.inl (List.take (Int.toNat d7.1) b0 ++ d :: List.drop (Int.toNat d7.1) b0))
 else none
 else bif decide (0 ≤ d7.1) then
   optC b0[Int.toNat d7.1]? (none) fun d8 ↦
   optC b0[Int.toNat d7.1]? (none) fun d9 ↦
   bif decide (d9.2.2.2.2.1 > d9.2.2.2.2.2) then
   bif decide (d.2.2.2.2.1 > d.2.2.2.2.2) then
   bif decide (0 ≤ d7.1) then
   optC b0[Int.toNat d7.1]? (none) fun d10 ↦
   optC b0[Int.toNat d7.1]? (none) fun d11 ↦
   some (Sum.inl (b0.set (Int.toNat d7.1) (d11.1, d11.2.1, d11.2.2.1, d11.2.2.2.1, 1, 0)))
 else none
 else bif decide (0 ≤ d7.1) then
   optC b0[Int.toNat d7.1]? (none) fun d10 ↦
   optC b0[Int.toNat d7.1]? (none) fun d11 ↦
   some (Sum.inl (b0.set (Int.toNat d7.1) (d11.1, d11.2.1, d11.2.2.1, d11.2.2.2.1, d.2.2.2.2)))
 else none
 else bif decide (d.2.2.2.2.1 > d.2.2.2.2.2) then
   bif decide (0 ≤ d7.1) then
   optC b0[Int.toNat d7.1]? (none) fun d10 ↦
   optC b0[Int.toNat d7.1]? (none) fun d11 ↦
   some (Sum.inl (b0.set (Int.toNat d7.1) (d11.1, d11.2.1, d11.2.2.1, d11.2.2.2.1, d9.2.2.2.2)))
 else none
 else bif decide (d9.2.2.2.2.1 > d9.2.2.2.2.2) then
   bif decide (0 ≤ d7.1) then
   optC b0[Int.toNat d7.1]? (none) fun d10 ↦
   optC b0[Int.toNat d7.1]? (none) fun d11 ↦
   some (Sum.inl (b0.set (Int.toNat d7.1) (d11.1, d11.2.1, d11.2.2.1, d11.2.2.2.1, d.2.2.2.2)))
 else none
 else bif decide (0 ≤ d7.1) then
   optC b0[Int.toNat d7.1]? (none) fun d10 ↦
   optC b0[Int.toNat d7.1]? (none) fun d11 ↦
   some (Sum.inl (b0.set (Int.toNat d7.1) (d11.1, d11.2.1, d11.2.2.1, d11.2.2.2.1, if d.2.2.2.2.1 < d9.2.2.2.2.1 then d.2.2.2.2.1 else d9.2.2.2.2.1, if d.2.2.2.2.2 > d9.2.2.2.2.2 then d.2.2.2.2.2 else d9.2.2.2.2.2)))
 else none
 else none
noncomputable def fn_tab_Add_20_0_0  (s10 : (List En)) (b0 : (List En)) : Option (List En) :=
  some b0
noncomputable abbrev rx_tab_Add_20_0_0  (s10 : (List En)) (i : Nat) (s : (List En)) : ((List En) × Int × Int × (List En)) := (s10, (s10.length : Int), (i : Int), s)
noncomputable def rv_tab_Add_20_0_0  (s10 : (List En)) (s : (List En)) : Option (List En) := rangeO (fun i s d => bd_tab_Add_20_0_0  s10 i s d) (fun s => fn_tab_Add_20_0_0  s10 s) 0 s10 s
theorem rg_tab_Add_20_0_0  (s10 : (List En)) (s : (List En)) (hl : s10.length < 9223372036854775807) : L_tab_Add_20_0_0 (s10, (s10.length : Int), 0, s) = rv_tab_Add_20_0_0  s10 s := by
  unfold L_tab_Add_20_0_0 rv_tab_Add_20_0_0
  refine iterO_range0 s10 (rx_tab_Add_20_0_0  s10) _ _ ?_ ?_ s (by unfold FUEL; omega)
  · intro i s d hi hd
    have e1 : decide ((i : Int) < (s10.length : Int)) = true := decide_eq_true (by omega)
    have e2 : decide (0 ≤ (i : Int)) = true := decide_eq_true (by omega)
    have e3 : Int.toNat (i : Int) = i := Int.toNat_natCast i
    have e4 := wrap_next hi (Nat.le_of_lt hl)
    show st_tab_Add_20_0_0 (s10) ((s10.length : Int)) ((i : Int)) (s) = upd _ (bd_tab_Add_20_0_0  s10 i s d)
    unfold st_tab_Add_20_0_0 bd_tab_Add_20_0_0
    simp only [e1, e2, e3, e4, hd, cond_true, cond_false, optC_some, upd_cond, upd_optC, upd_elim, upd_inl, upd_inr, upd_none]
  · intro s
    have e1 : decide ((s10.length : Int) < (s10.length : Int)) = false := decide_eq_false (by omega)
    show st_tab_Add_20_0_0 (s10) ((s10.length : Int)) ((s10.length : Int)) (s) = _
    unfold st_tab_Add_20_0_0 fn_tab_Add_20_0_0
    rw [e1]
    rfl
end Go.Proofs.Ytbdcblpjemmipaa.Ex

namespace Go.Proofs.Ytbdcblpjemmipaa.Ex
open Go.Proofs Go.Proofs.Ytbdcblpjemmipaa
set_option maxRecDepth 100000
set_option maxHeartbeats 2000000
set_option linter.unusedVariables false
set_option linter.unusedSimpArgs false
abbrev ty_156_0 : Type := ((Unit × (Unit × (Unit × (Int × (Int × ((List Int) × (Int × (Int × Unit)))))))) × ((Int × (Int × Unit)) × ((Int × (Int × Unit)) × ((Int × (Int × Unit)) × Unit))))
abbrev ty_156_1 : Type := ((Unit × (Unit × (Unit × (Int × (Int × Unit))))) × ((Int × (Int × Unit)) × ((Int × (Int × Unit)) × ((Int × (Int × Unit)) × Unit))))
abbrev ty_156_2 : Type := (Int × Int × (List Int) × Int × Int × Int × Int × Int × Int × Int × Int)
abbrev fn_156_0 := (fun (x : (Int × Int × Int × Int × Int × Int × Int × Int)) => ((((), (), (), x.1, x.2.1, ()), ((x.2.2.1, x.2.2.2.1, ()), (x.2.2.2.2.1, x.2.2.2.2.2.1, ()), (x.2.2.2.2.2.2.1, x.2.2.2.2.2.2.2, ()), ())) : ty_156_1))
abbrev fn_156_1 := (fun (d : ty_156_0) => ((d.1.2.2.2.1, d.1.2.2.2.2.1, d.1.2.2.2.2.2.1, d.1.2.2.2.2.2.2.1, d.1.2.2.2.2.2.2.2.1, d.2.1.1, d.2.1.2.1, d.2.2.1.1, d.2.2.1.2.1, d.2.2.2.1.1, d.2.2.2.1.2.1) : ty_156_2))
def ash_itv_Widen : List Sh := [.dat tI, .dat tI, .dat (.sl (.int .i64))]
def kp_itv_Widen_63_1 : Nat → List Nat := fun c => bif c.beq 0 then [3, 6, 7, 8, 9, 24, 25, 26] else [3, 6, 7, 8, 9]
noncomputable def sp_itv_Widen : Nat → Option (List AV → Prog AV)
  | 92 => some (con_itv_Empty)
  | 55 => some (con_itv_Join)
  | 98 => some (con_num_Fits)
  | _ => none
theorem hsp_itv_Widen : ∀ g p, sp_itv_Widen g = some p → SoundA Try.prog g p := by
  intro g p h
  unfold sp_itv_Widen at h
  split at h
  · cases h; exact snd_itv_Empty
  · cases h; exact snd_itv_Join
  · cases h; exact snd_num_Fits
  · cases h
noncomputable def cx_itv_Widen0 : Ctx := { tab := tab, spec := sp_itv_Widen, inl := inl, lps := fun _ _ => none, fuel := 40 }
theorem in_itv_Widen0 : InlOk Try.prog cx_itv_Widen0 := ⟨inl_ok, fun _ _ _ _ _ _ _ _ h => nomatch h⟩
theorem cal_itv_Widen0 (g : Nat) : SoundA Try.prog g (evF cx_itv_Widen0 keeps 8 g) := evF_sound (tabOk_of tab_ok) (cmpsOk_of tab_ok cmps_ok) mixed in_itv_Widen0 hsp_itv_Widen keeps 8 g
noncomputable def F_itv_Widen_63_1 (base : Nat) : Tm → Prog (Nat × Tm) := evC cx_itv_Widen0 (evF cx_itv_Widen0 keeps 8) ⟨63, 64, keeps 63, base⟩ 1 (bodyX 63 1)
def s_itv_Widen_63_1_0 : StS := ⟨[(3, .ptr 0 0), (6, .ptr 1 0), (7, .ptr 2 0), (8, .int .i64), (9, .int .i64), (24, .sl (.int .i64)), (25, .int .i64), (26, .int .i64)], [(0, .box [.int .i64, .int .i64]), (1, .box [.int .i64, .int .i64]), (2, .box [.int .i64, .int .i64])], 3⟩
def x_itv_Widen_63_1_0_0 : StS := ⟨[(3, .ptr 0 0), (6, .ptr 1 0), (7, .ptr 2 0), (8, .int .i64), (9, .int .i64)], [(0, .box [.int .i64, .int .i64]), (1, .box [.int .i64, .int .i64]), (2, .box [.int .i64, .int .i64])], 3⟩
noncomputable def st_itv_Widen_63_1_0 (s8 : Int) (s9 : Int) (s24 : (List Int)) (s25 : Int) (s26 : Int) (b0 : Int) (b0_1 : Int) (b1 : Int) (b1_1 : Int) (b2 : Int) (b2_1 : Int) : Option (ty_156_2 ⊕ (Int × Int × Int × Int × Int × Int × Int × Int)) :=
  bif decide (s26 < s25) then
 bif decide (0 ≤ s26) then
 optC s24[s26.toNat]? none fun d13 ↦
 optC (G_num_Fits ([d13], ())) none fun d14 ↦
 bif !d14 then some (Sum.inl (s8, s9, s24, s25, Go.IntKind.i64.wrap (s26 + 1), b0, b0_1, b1, b1_1, b2, b2_1))
 else
 bif decide (d13 ≤ b2) then
 bif decide (d13 ≥ b2_1) then
 some (Sum.inl (if d13 > s8 then d13 else s8, if d13 < s9 then d13 else s9, s24, s25, Go.IntKind.i64.wrap (s26 + 1), b0, b0_1, b1, b1_1, b2, b2_1))
 else some (Sum.inl (if d13 > s8 then d13 else s8, s9, s24, s25, Go.IntKind.i64.wrap (s26 + 1), b0, b0_1, b1, b1_1, b2, b2_1))
 else
 bif decide (d13 ≥ b2_1) then some (Sum.inl (s8, if d13 < s9 then d13 else s9, s24, s25, Go.IntKind.i64.wrap (s26 + 1), b0, b0_1, b1, b1_1, b2, b2_1))
 else some (Sum.inl (s8, s9, s24, s25, Go.IntKind.i64.wrap (s26 + 1), b0, b0_1, b1, b1_1, b2, b2_1))
 else none
 else some (Sum.inr (s8, s9, b0, b0_1, b1, b1_1, b2, b2_1))
theorem rn_itv_Widen_63_1_0 (s8 : Int) (s9 : Int) (s24 : (List Int)) (s25 : Int) (s26 : Int) (b0 : Int) (b0_1 : Int) (b1 : Int) (b1_1 : Int) (b2 : Int) (b2_1 : Int) : rdX cx_itv_Widen0 keeps 8 ⟨63, 64, keeps 63, 0⟩ 1 (bodyX 63 1) 0 kp_itv_Widen_63_1 (sT s_itv_Widen_63_1_0 (((), (), (), s8, s9, s24, s25, s26, ()), ((b0, b0_1, ()), (b1, b1_1, ()), (b2, b2_1, ()), ()))) (sH s_itv_Widen_63_1_0 (((), (), (), s8, s9, s24, s25, s26, ()), ((b0, b0_1, ()), (b1, b1_1, ()), (b2, b2_1, ()), ()))) (rdO (fun T h => (rdS s_itv_Widen_63_1_0 T h).map fn_156_1) (getE 3 x_itv_Widen_63_1_0_0 (fun (d : ty_156_1) => ((d.1.2.2.2.1, d.1.2.2.2.2.1, d.2.1.1, d.2.1.2.1, d.2.2.1.1, d.2.2.1.2.1, d.2.2.2.1.1, d.2.2.2.1.2.1) : (Int × Int × Int × Int × Int × Int × Int × Int))))) = st_itv_Widen_63_1_0 s8 s9 s24 s25 s26 b0 b0_1 b1 b1_1 b2 b2_1 := by kernel_rfl
noncomputable def L_itv_Widen_63_1_0 (x : ty_156_2) : Option (Int × Int × Int × Int × Int × Int × Int × Int) := iterO (fun x => st_itv_Widen_63_1_0 x.1 x.2.1 x.2.2.1 x.2.2.2.1 x.2.2.2.2.1 x.2.2.2.2.2.1 x.2.2.2.2.2.2.1 x.2.2.2.2.2.2.2.1 x.2.2.2.2.2.2.2.2.1 x.2.2.2.2.2.2.2.2.2.1 x.2.2.2.2.2.2.2.2.2.2) FUEL x
noncomputable def q_itv_Widen_63_1 : Nat → Tm → Prog (Nat × Tm) := (varP 0 (fun T h => (rdS s_itv_Widen_63_1_0 T h).map fn_156_1) L_itv_Widen_63_1_0 (altE 3 x_itv_Widen_63_1_0_0 fn_156_0) (fun _ _ => .fail))
theorem ok_itv_Widen_63_1 : VarOk kp_itv_Widen_63_1 F_itv_Widen_63_1 q_itv_Widen_63_1 := (varX_ok (s := s_itv_Widen_63_1_0) (un := (fun (x : ty_156_2) => ((((), (), (), x.1, x.2.1, x.2.2.1, x.2.2.2.1, x.2.2.2.2.1, ()), ((x.2.2.2.2.2.1, x.2.2.2.2.2.2.1, ()), (x.2.2.2.2.2.2.2.1, x.2.2.2.2.2.2.2.2.1, ()), (x.2.2.2.2.2.2.2.2.2.1, x.2.2.2.2.2.2.2.2.2.2, ()), ())) : ty_156_0))) (by rfl) (fun _ => rfl) (getE_ok (s := x_itv_Widen_63_1_0_0) (un := fn_156_0) (by rfl) (fun _ => rfl)) (step := fun x => st_itv_Widen_63_1_0 x.1 x.2.1 x.2.2.1 x.2.2.2.1 x.2.2.2.2.1 x.2.2.2.2.2.1 x.2.2.2.2.2.2.1 x.2.2.2.2.2.2.2.1 x.2.2.2.2.2.2.2.2.1 x.2.2.2.2.2.2.2.2.2.1 x.2.2.2.2.2.2.2.2.2.2) (fun x => rn_itv_Widen_63_1_0 x.1 x.2.1 x.2.2.1 x.2.2.2.1 x.2.2.2.2.1 x.2.2.2.2.2.1 x.2.2.2.2.2.2.1 x.2.2.2.2.2.2.2.1 x.2.2.2.2.2.2.2.2.1 x.2.2.2.2.2.2.2.2.2.1 x.2.2.2.2.2.2.2.2.2.2) (fun _ _ e => ⟨_, e⟩) (altE_ok 3 x_itv_Widen_63_1_0_0 fn_156_0) (VarOk.fail _ _))
noncomputable def lpI_itv_Widen_63_1 (base : Nat) (T : Tm) : Prog (Nat × Tm) := .norm base (kp_itv_Widen_63_1 0) T (q_itv_Widen_63_1 base)
theorem sndI_itv_Widen_63_1 : SoundC Try.prog 64 (.loop (bodyX 63 1)) lpI_itv_Widen_63_1 := loopK_sound (cx := cx_itv_Widen0) (cal := evF cx_itv_Widen0 keeps 8) (kp := keeps 63) (tabOk_of tab_ok) (cmpsOk_of tab_ok cmps_ok) cal_itv_Widen0 mixed (hl_of (g := 63) (b := 1) in_itv_Widen0 (by kernel_rfl) (by kernel_rfl)) ok_itv_Widen_63_1
noncomputable def lpL_itv_Widen_63_1 : Nat → Tm → Prog (Nat × Tm) := lpI_itv_Widen_63_1
theorem sndL_itv_Widen_63_1 : SoundC Try.prog 64 (.loop (bodyX 63 1)) lpL_itv_Widen_63_1 := sndI_itv_Widen_63_1
noncomputable def lp_itv_Widen : Nat → Nat → Option (Nat → Tm → Prog (Nat × Tm))
  | 63, 1 => some lpL_itv_Widen_63_1
  | _, _ => none
noncomputable def cx_itv_Widen : Ctx := { tab := tab, spec := sp_itv_Widen, inl := inl, lps := lp_itv_Widen, fuel := 40 }
theorem in_itv_Widen : InlOk Try.prog cx_itv_Widen := ⟨inl_ok, fun g fn c hg hb q hq p hp => by
  change lp_itv_Widen g q.1 = some p at hp
  change inl g = some fn at hg
  generalize hq1 : q.1 = b at hp
  unfold lp_itv_Widen at hp
  split at hp
  · cases hp; exact lps_case (inl := inl) hg hb hq hq1 (by kernel_rfl) (by kernel_rfl) sndL_itv_Widen_63_1
  · cases hp⟩
theorem cal_itv_Widen (g : Nat) : SoundA Try.prog g (evF cx_itv_Widen keeps 8 g) := evF_sound (tabOk_of tab_ok) (cmpsOk_of tab_ok cmps_ok) mixed in_itv_Widen hsp_itv_Widen keeps 8 g
noncomputable def g_itv_Widen (a0 : I) (a1 : I) (a2 : (List Int)) : Option I :=
  bif decide (a1.1 > a1.2) then some (a0.1, a0.2)
 else
 bif decide (a0.1 > a0.2) then some (a1.1, a1.2)
 else
 optC (G_itv_Join ([a0, a1], ())) none fun d5 ↦
 optC (L_itv_Widen_63_1_0 (-2147483648, 2147483647, a2, (↑a2.length : Int), 0, a0.1, a0.2, 0, 0, d5)) none fun d6 ↦
 bif decide (d6.2.2.2.2.2.2.1 < d6.2.2.1) then
 bif decide (d6.2.2.2.2.2.2.2 > d6.2.2.2.1) then some (d6.1, d6.2.1) else some (d6.1, d6.2.2.2.2.2.2.2)
 else
 bif decide (d6.2.2.2.2.2.2.2 > d6.2.2.2.1) then some (d6.2.2.2.2.2.2.1, d6.2.1)
 else some (d6.2.2.2.2.2.2.1, d6.2.2.2.2.2.2.2)
theorem raw_itv_Widen (a0 : I) (a1 : I) (a2 : (List Int)) : evGX cx_itv_Widen keeps 8 63 ash_itv_Widen (.dat tI) ((a0, a1, a2, ()) : (I × (I × ((List Int) × Unit)))) = g_itv_Widen a0 a1 a2 := by kernel_rfl
noncomputable def G_itv_Widen (x : (I × (I × ((List Int) × Unit)))) : Option I := g_itv_Widen x.1 x.2.1 x.2.2.1
noncomputable def con_itv_Widen : List AV → Prog AV := conP true ash_itv_Widen (.dat tI) G_itv_Widen
theorem snd_itv_Widen : SoundA Try.prog 63 con_itv_Widen := conP_sound (cal_itv_Widen 63) true (by rfl) (by rfl) (fun x r e => (evGX_eq _ _ _ _ _ _ _).trans ((raw_itv_Widen x.1 x.2.1 x.2.2.1).trans e)) (.inl rfl)
end Go.Proofs.Ytbdcblpjemmipaa.Ex

namespace Go.Proofs.Ytbdcblpjemmipaa.Ex
open Go.Proofs Go.Proofs.Ytbdcblpjemmipaa
set_option maxRecDepth 100000
set_option maxHeartbeats 2000000
set_option linter.unusedVariables false
set_option linter.unusedSimpArgs false
abbrev ty_157_0 : Type := ((Unit × (Unit × ((List En) × (Int × (Int × Unit))))) × (((List Int) × Unit) × ((List En) × Unit)))
abbrev fn_157_0 := (fun (d : ty_157_0) => ((d.1.2.2.1, d.1.2.2.2.1, d.1.2.2.2.2.1, d.2.1.1, d.2.2.1) : ((List En) × Int × Int × (List Int) × (List En))))
abbrev fn_157_1 := (fun (x : (List En)) => ((((), ()), (x, ())) : ((Unit × Unit) × ((List En) × Unit))))
def ash_tab_Widen : List Sh := [.dat (.sl tEn), .dat (.sl tEn), .dat (.sl (.int .i64))]
def kp_tab_Widen_24_0 : Nat → List Nat := fun c => bif c.beq 0 then [5, 7, 12, 13, 14] else [7]
noncomputable def sp_tab_Widen : Nat → Option (List AV → Prog AV)
  | 52 => some (con_slices_Clone_Entry)
  | 92 => some (con_itv_Empty)
  | 60 => some (con_tab_find)
  | 93 => some (con_slices_Insert_Entry)
  | 63 => some (con_itv_Widen)
  | _ => none
theorem hsp_tab_Widen : ∀ g p, sp_tab_Widen g = some p → SoundA Try.prog g p := by
  intro g p h
  unfold sp_tab_Widen at h
  split at h
  · cases h; exact snd_slices_Clone_Entry
  · cases h; exact snd_itv_Empty
  · cases h; exact snd_tab_find
  · cases h; exact snd_slices_Insert_Entry
  · cases h; exact snd_itv_Widen
  · cases h
noncomputable def cx_tab_Widen0 : Ctx := { tab := tab, spec := sp_tab_Widen, inl := inl, lps := fun _ _ => none, fuel := 40 }
theorem in_tab_Widen0 : InlOk Try.prog cx_tab_Widen0 := ⟨inl_ok, fun _ _ _ _ _ _ _ _ h => nomatch h⟩
theorem cal_tab_Widen0 (g : Nat) : SoundA Try.prog g (evF cx_tab_Widen0 keeps 8 g) := evF_sound (tabOk_of tab_ok) (cmpsOk_of tab_ok cmps_ok) mixed in_tab_Widen0 hsp_tab_Widen keeps 8 g
noncomputable def F_tab_Widen_24_0 (base : Nat) : Tm → Prog (Nat × Tm) := evC cx_tab_Widen0 (evF cx_tab_Widen0 keeps 8) ⟨24, 24, keeps 24, base⟩ 0 (bodyX 24 0)
def s_tab_Widen_24_0_0 : StS := ⟨[(5, .ptr 0 0), (7, .row 1), (12, .sl tEn), (13, .int .i64), (14, .int .i64)], [(0, .box [.sl (.int .i64)]), (1, .row tEn)], 2⟩
def x_tab_Widen_24_0_0_0 : StS := ⟨[(7, .row 0)], [(0, .row tEn)], 1⟩
noncomputable def st_tab_Widen_24_0_0 (s12 : (List En)) (s13 : Int) (s14 : Int) (b0 : (List Int)) (b1 : (List En)) : Option (((List En) × Int × Int × (List Int) × (List En)) ⊕ (List En)) :=
  bif decide (s14 < s13) then
 bif decide (0 ≤ s14) then
 optC s12[s14.toNat]? none fun d7 ↦
 bif decide (d7.2.2.2.2.1 > d7.2.2.2.2.2) then some (Sum.inl (s12, s13, Go.IntKind.i64.wrap (s14 + 1), b0, b1))
 else
 optC (G_tab_find (b1, d7, ())) none fun d8 ↦
 bif !d8.2.1 then
 bif decide (0 ≤ d8.1 ∧ d8.1 ≤ (↑b1.length : Int) ∧ (b1.length + 2) * 48 ≤ lim) then
 some (Sum.inl (s12, s13, Go.IntKind.i64.wrap (s14 + 1), b0, List.take (Int.toNat d8.1) b1 ++ d7 :: List.drop (Int.toNat d8.1) b1))
 else none
 else
 bif decide (0 ≤ d8.1) then
 optC b1[Int.toNat d8.1]? none fun d9 ↦
 optC b1[Int.toNat d8.1]? none fun d10 ↦
 optC (G_itv_Widen (d10.2.2.2.2, d7.2.2.2.2, b0, ())) none fun d11 ↦
 bif decide (0 ≤ d8.1) then
 optC b1[Int.toNat d8.1]? none fun d12 ↦
 optC b1[Int.toNat d8.1]? none fun d13 ↦
 some (Sum.inl (s12, s13, Go.IntKind.i64.wrap (s14 + 1), b0, b1.set (Int.toNat d8.1) (d13.1, d13.2.1, d13.2.2.1, d13.2.2.2.1, d11)))
 else none
 else none
 else none
 else some (Sum.inr b1)
theorem rn_tab_Widen_24_0_0 (s12 : (List En)) (s13 : Int) (s14 : Int) (b0 : (List Int)) (b1 : (List En)) : rdX cx_tab_Widen0 keeps 8 ⟨24, 24, keeps 24, 0⟩ 0 (bodyX 24 0) 0 kp_tab_Widen_24_0 (sT s_tab_Widen_24_0_0 (((), (), s12, s13, s14, ()), ((b0, ()), b1, ()))) (sH s_tab_Widen_24_0_0 (((), (), s12, s13, s14, ()), ((b0, ()), b1, ()))) (rdO (fun T h => (rdS s_tab_Widen_24_0_0 T h).map fn_157_0) (getE 2 x_tab_Widen_24_0_0_0 (fun (d : ((Unit × Unit) × ((List En) × Unit))) => ((d.2.1) : (List En))))) = st_tab_Widen_24_0_0 s12 s13 s14 b0 b1 := by kernel_rfl
noncomputable def L_tab_Widen_24_0_0 (x : ((List En) × Int × Int × (List Int) × (List En))) : Option (List En) := iterO (fun x => st_tab_Widen_24_0_0 x.1 x.2.1 x.2.2.1 x.2.2.2.1 x.2.2.2.2) FUEL x
noncomputable def q_tab_Widen_24_0 : Nat → Tm → Prog (Nat × Tm) := (varP 0 (fun T h => (rdS s_tab_Widen_24_0_0 T h).map fn_157_0) L_tab_Widen_24_0_0 (altE 2 x_tab_Widen_24_0_0_0 fn_157_1) (fun _ _ => .fail))
theorem ok_tab_Widen_24_0 : VarOk kp_tab_Widen_24_0 F_tab_Widen_24_0 q_tab_Widen_24_0 := (varX_ok (s := s_tab_Widen_24_0_0) (un := (fun (x : ((List En) × Int × Int × (List Int) × (List En))) => ((((), (), x.1, x.2.1, x.2.2.1, ()), ((x.2.2.2.1, ()), x.2.2.2.2, ())) : ty_157_0))) (by rfl) (fun _ => rfl) (getE_ok (s := x_tab_Widen_24_0_0_0) (un := fn_157_1) (by rfl) (fun _ => rfl)) (step := fun x => st_tab_Widen_24_0_0 x.1 x.2.1 x.2.2.1 x.2.2.2.1 x.2.2.2.2) (fun x => rn_tab_Widen_24_0_0 x.1 x.2.1 x.2.2.1 x.2.2.2.1 x.2.2.2.2) (fun _ _ e => ⟨_, e⟩) (altE_ok 2 x_tab_Widen_24_0_0_0 fn_157_1) (VarOk.fail _ _))
noncomputable def lpI_tab_Widen_24_0 (base : Nat) (T : Tm) : Prog (Nat × Tm) := .norm base (kp_tab_Widen_24_0 0) T (q_tab_Widen_24_0 base)
theorem sndI_tab_Widen_24_0 : SoundC Try.prog 24 (.loop (bodyX 24 0)) lpI_tab_Widen_24_0 := loopK_sound (cx := cx_tab_Widen0) (cal := evF cx_tab_Widen0 keeps 8) (kp := keeps 24) (tabOk_of tab_ok) (cmpsOk_of tab_ok cmps_ok) cal_tab_Widen0 mixed (hl_of (g := 24) (b := 0) in_tab_Widen0 (by kernel_rfl) (by kernel_rfl)) ok_tab_Widen_24_0
noncomputable def lpL_tab_Widen_24_0 : Nat → Tm → Prog (Nat × Tm) := lpI_tab_Widen_24_0
theorem sndL_tab_Widen_24_0 : SoundC Try.prog 24 (.loop (bodyX 24 0)) lpL_tab_Widen_24_0 := sndI_tab_Widen_24_0
noncomputable def lp_tab_Widen : Nat → Nat → Option (Nat → Tm → Prog (Nat × Tm))
  | 24, 0 => some lpL_tab_Widen_24_0
  | _, _ => none
noncomputable def cx_tab_Widen : Ctx := { tab := tab, spec := sp_tab_Widen, inl := inl, lps := lp_tab_Widen, fuel := 40 }
theorem in_tab_Widen : InlOk Try.prog cx_tab_Widen := ⟨inl_ok, fun g fn c hg hb q hq p hp => by
  change lp_tab_Widen g q.1 = some p at hp
  change inl g = some fn at hg
  generalize hq1 : q.1 = b at hp
  unfold lp_tab_Widen at hp
  split at hp
  · cases hp; exact lps_case (inl := inl) hg hb hq hq1 (by kernel_rfl) (by kernel_rfl) sndL_tab_Widen_24_0
  · cases hp⟩
theorem cal_tab_Widen (g : Nat) : SoundA Try.prog g (evF cx_tab_Widen keeps 8 g) := evF_sound (tabOk_of tab_ok) (cmpsOk_of tab_ok cmps_ok) mixed in_tab_Widen hsp_tab_Widen keeps 8 g
noncomputable def g_tab_Widen (a0 : (List En)) (a1 : (List En)) (a2 : (List Int)) : Option (List En) :=
  bif decide (((List.length (α := I) []) + a0.length + 1) * 48 ≤ lim) then optC (L_tab_Widen_24_0_0 (a1, (↑a1.length : Int), 0, a2, [] ++ a0)) none fun d5 ↦ some d5 else none
theorem raw_tab_Widen (a0 : (List En)) (a1 : (List En)) (a2 : (List Int)) : evRX cx_tab_Widen keeps 8 24 ash_tab_Widen tEn ((a0, a1, a2, ()) : ((List En) × ((List En) × ((List Int) × Unit)))) = g_tab_Widen a0 a1 a2 := by kernel_rfl
noncomputable def G_tab_Widen (x : ((List En) × ((List En) × ((List Int) × Unit)))) : Option (List En) := g_tab_Widen x.1 x.2.1 x.2.2.1
noncomputable def con_tab_Widen : List AV → Prog AV := conR false ash_tab_Widen tEn G_tab_Widen
theorem snd_tab_Widen : SoundA Try.prog 24 con_tab_Widen := conR_sound (cal_tab_Widen 24) false (by rfl) (fun x r e => (evRX_eq _ _ _ _ _ _ _).trans ((raw_tab_Widen x.1 x.2.1 x.2.2.1).trans e)) (.inr (by rfl))
end Go.Proofs.Ytbdcblpjemmipaa.Ex

namespace Go.Proofs.Ytbdcblpjemmipaa.Ex
set_option maxRecDepth 100000
set_option maxHeartbeats 2000000
set_option linter.unusedVariables false
set_option linter.unusedSimpArgs false
noncomputable def bd_tab_Widen_24_0_0 (b0 : (List Int)) (s12 : (List En)) (i : Nat) (b1 : (List En)) (d : En) : Option ((List En) ⊕ (List En)) :=
  bif decide (d.2.2.2.2.1 > d.2.2.2.2.2) then
   some (Sum.inl (b1))
 else optC (G_tab_find (b1, d, ())) (none) fun d8 ↦
   bif !d8.2.1 then
   bif decide (0 ≤ d8.1 ∧ d8.1 ≤ (↑b1.length : Int) ∧ (b1.length + 2) * 48 ≤ lim) then
   some (Sum.inl (List.take (Int.toNat d8.1) b1 ++ d :: List.drop (Int.toNat d8.1) b1))
 else none
 else bif decide (0 ≤ d8.1) then
   optC b1[Int.toNat d8.1]? (none) fun d9 ↦
   optC b1[Int.toNat d8.1]? (none) fun d10 ↦
   optC (G_itv_Widen (d10.2.2.2.2, d.2.2.2.2, b0, ())) (none) fun d11 ↦
   bif decide (0 ≤ d8.1) then
   optC b1[Int.toNat d8.1]? (none) fun d12 ↦
   optC b1[Int.toNat d8.1]? (none) fun d13 ↦
   some (Sum.inl (b1.set (Int.toNat d8.1) (d13.1, d13.2.1, d13.2.2.1, d13.2.2.2.1, d11)))
 else none
 else none
noncomputable def fn_tab_Widen_24_0_0 (b0 : (List Int)) (s12 : (List En)) (b1 : (List En)) : Option (List En) :=
  some b1
noncomputable abbrev rx_tab_Widen_24_0_0 (b0 : (List Int)) (s12 : (List En)) (i : Nat) (s : (List En)) : ((List En) × Int × Int × (List Int) × (List En)) := (s12, (s12.length : Int), (i : Int), b0, s)
noncomputable def rv_tab_Widen_24_0_0 (b0 : (List Int)) (s12 : (List En)) (s : (List En)) : Option (List En) := rangeO (fun i s d => bd_tab_Widen_24_0_0 b0 s12 i s d) (fun s => fn_tab_Widen_24_0_0 b0 s12 s) 0 s12 s
theorem rg_tab_Widen_24_0_0 (b0 : (List Int)) (s12 : (List En)) (s : (List En)) (hl : s12.length < 9223372036854775807) : L_tab_Widen_24_0_0 (s12, (s12.length : Int), 0, b0, s) = rv_tab_Widen_24_0_0 b0 s12 s := by
  unfold L_tab_Widen_24_0_0 rv_tab_Widen_24_0_0
  refine iterO_range0 s12 (rx_tab_Widen_24_0_0 b0 s12) _ _ ?_ ?_ s (by unfold FUEL; omega)
  · intro i s d hi hd
    have e1 : decide ((i : Int) < (s12.length : Int)) = true := decide_eq_true (by omega)
    have e2 : decide (0 ≤ (i : Int)) = true := decide_eq_true (by omega)
    have e3 : Int.toNat (i : Int) = i := Int.toNat_natCast i
    have e4 := wrap_next hi (Nat.le_of_lt hl)
    show st_tab_Widen_24_0_0 (s12) ((s12.length : Int)) ((i : Int)) (b0) (s) = upd _ (bd_tab_Widen_24_0_0 b0 s12 i s d)
    unfold st_tab_Widen_24_0_0 bd_tab_Widen_24_0_0
    simp only [e1, e2, e3, e4, hd, cond_true, cond_false, optC_some, upd_cond, upd_optC, upd_elim, upd_inl, upd_inr, upd_none]
  · intro s
    have e1 : decide ((s12.length : Int) < (s12.length : Int)) = false := decide_eq_false (by omega)
    show st_tab_Widen_24_0_0 (s12) ((s12.length : Int)) ((s12.length : Int)) (b0) (s) = _
    unfold st_tab_Widen_24_0_0 fn_tab_Widen_24_0_0
    rw [e1]
    rfl
end Go.Proofs.Ytbdcblpjemmipaa.Ex

namespace Go.Proofs.Ytbdcblpjemmipaa.Ex
open Go.Proofs Go.Proofs.Ytbdcblpjemmipaa
set_option maxRecDepth 100000
set_option maxHeartbeats 2000000
set_option linter.unusedVariables false
set_option linter.unusedSimpArgs false
def ash_tab_Join : List Sh := [.dat (.sl tEn), .dat (.sl tEn)]
noncomputable def sp_tab_Join : Nat → Option (List AV → Prog AV)
  | 20 => some (con_tab_Add)
  | _ => none
theorem hsp_tab_Join : ∀ g p, sp_tab_Join g = some p → SoundA Try.prog g p := by
  intro g p h
  unfold sp_tab_Join at h
  split at h
  · cases h; exact snd_tab_Add
  · cases h
noncomputable def cx_tab_Join : Ctx := { tab := tab, spec := sp_tab_Join, inl := inl, lps := fun _ _ => none, fuel := 40 }
theorem in_tab_Join : InlOk Try.prog cx_tab_Join := ⟨inl_ok, fun _ _ _ _ _ _ _ _ h => nomatch h⟩
theorem cal_tab_Join (g : Nat) : SoundA Try.prog g (evF cx_tab_Join keeps 8 g) := evF_sound (tabOk_of tab_ok) (cmpsOk_of tab_ok cmps_ok) mixed in_tab_Join hsp_tab_Join keeps 8 g
noncomputable def g_tab_Join (a0 : (List En)) (a1 : (List En)) : Option (List En) :=
  optC (G_tab_Add (a0, a1, ())) none fun d3 ↦ some d3
theorem raw_tab_Join (a0 : (List En)) (a1 : (List En)) : evRX cx_tab_Join keeps 8 17 ash_tab_Join tEn ((a0, a1, ()) : ((List En) × ((List En) × Unit))) = g_tab_Join a0 a1 := by kernel_rfl
noncomputable def G_tab_Join (x : ((List En) × ((List En) × Unit))) : Option (List En) := g_tab_Join x.1 x.2.1
noncomputable def con_tab_Join : List AV → Prog AV := conR false ash_tab_Join tEn G_tab_Join
theorem snd_tab_Join : SoundA Try.prog 17 con_tab_Join := conR_sound (cal_tab_Join 17) false (by rfl) (fun x r e => (evRX_eq _ _ _ _ _ _ _).trans ((raw_tab_Join x.1 x.2.1).trans e)) (.inr (by rfl))
end Go.Proofs.Ytbdcblpjemmipaa.Ex

