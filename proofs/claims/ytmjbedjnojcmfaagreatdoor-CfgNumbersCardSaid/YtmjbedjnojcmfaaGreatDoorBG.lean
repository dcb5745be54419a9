/- A part of the proofs of which programs may be: BG. -/
import Derived.Test.YtmjbedjnojcmfaaGreatDoorBF
import Derived.Test.YtmjbedjnojcmfaaGreatDoorBD
import Derived.Shelf.Small.Strs
import Derived.Shelf.Strings.SlTrimAscii
import Derived.Test.YtmjbedjnojcmfaaGreatDoorBB
import Derived.Below
import Derived.Lib.Bytealg
import Derived.Lib.SlTrimSet
import Derived.Conc.MuLone
namespace Go.Proofs.YtmjbedjnojcmfaaGreatDoor.Ex
set_option maxRecDepth 100000
set_option linter.unusedVariables false
set_option linter.unusedSimpArgs false
theorem n_ref1_Fits (n : Int) : g_ref1_Fits n = some (fitB n) := by
  unfold g_ref1_Fits fitB
  cases decide (n ≥ -2147483648) <;> rfl
def inB (k n : Int) : Bool := decide (k ≥ 0) && decide (k < n)
theorem n_ref8_in (k n : Int) : g_ref8_in k n = some (inB k n) := by
  unfold g_ref8_in inB
  cases decide (k ≥ 0) <;> rfl
theorem us_0_1 : g_ref8_uses 0 1 = some false := by kernel_rfl
theorem us_0_2 : g_ref8_uses 0 2 = some false := by kernel_rfl
theorem us_0_3 : g_ref8_uses 0 3 = some false := by kernel_rfl
theorem us_0_4 : g_ref8_uses 0 4 = some false := by kernel_rfl
theorem us_1_1 : g_ref8_uses 1 1 = some true := by kernel_rfl
theorem us_1_2 : g_ref8_uses 1 2 = some false := by kernel_rfl
theorem us_1_3 : g_ref8_uses 1 3 = some false := by kernel_rfl
theorem us_1_4 : g_ref8_uses 1 4 = some false := by kernel_rfl
theorem us_2_1 : g_ref8_uses 2 1 = some true := by kernel_rfl
theorem us_2_2 : g_ref8_uses 2 2 = some true := by kernel_rfl
theorem us_2_3 : g_ref8_uses 2 3 = some false := by kernel_rfl
theorem us_2_4 : g_ref8_uses 2 4 = some false := by kernel_rfl
theorem us_3_1 : g_ref8_uses 3 1 = some true := by kernel_rfl
theorem us_3_2 : g_ref8_uses 3 2 = some false := by kernel_rfl
theorem us_3_3 : g_ref8_uses 3 3 = some false := by kernel_rfl
theorem us_3_4 : g_ref8_uses 3 4 = some false := by kernel_rfl
theorem us_4_1 : g_ref8_uses 4 1 = some true := by kernel_rfl
theorem us_4_2 : g_ref8_uses 4 2 = some true := by kernel_rfl
theorem us_4_3 : g_ref8_uses 4 3 = some true := by kernel_rfl
theorem us_4_4 : g_ref8_uses 4 4 = some false := by kernel_rfl
theorem us_5_1 : g_ref8_uses 5 1 = some true := by kernel_rfl
theorem us_5_2 : g_ref8_uses 5 2 = some false := by kernel_rfl
theorem us_5_3 : g_ref8_uses 5 3 = some false := by kernel_rfl
theorem us_5_4 : g_ref8_uses 5 4 = some true := by kernel_rfl
theorem us_6_1 : g_ref8_uses 6 1 = some false := by kernel_rfl
theorem us_6_2 : g_ref8_uses 6 2 = some true := by kernel_rfl
theorem us_6_3 : g_ref8_uses 6 3 = some false := by kernel_rfl
theorem us_6_4 : g_ref8_uses 6 4 = some true := by kernel_rfl
theorem us_7_1 : g_ref8_uses 7 1 = some true := by kernel_rfl
theorem us_7_2 : g_ref8_uses 7 2 = some true := by kernel_rfl
theorem us_7_3 : g_ref8_uses 7 3 = some false := by kernel_rfl
theorem us_7_4 : g_ref8_uses 7 4 = some true := by kernel_rfl
theorem us_8_1 : g_ref8_uses 8 1 = some false := by kernel_rfl
theorem us_8_2 : g_ref8_uses 8 2 = some true := by kernel_rfl
theorem us_8_3 : g_ref8_uses 8 3 = some true := by kernel_rfl
theorem us_8_4 : g_ref8_uses 8 4 = some true := by kernel_rfl
theorem us_9_1 : g_ref8_uses 9 1 = some false := by kernel_rfl
theorem us_9_2 : g_ref8_uses 9 2 = some false := by kernel_rfl
theorem us_9_3 : g_ref8_uses 9 3 = some false := by kernel_rfl
theorem us_9_4 : g_ref8_uses 9 4 = some true := by kernel_rfl
theorem us_10_1 : g_ref8_uses 10 1 = some false := by kernel_rfl
theorem us_10_2 : g_ref8_uses 10 2 = some false := by kernel_rfl
theorem us_10_3 : g_ref8_uses 10 3 = some false := by kernel_rfl
theorem us_10_4 : g_ref8_uses 10 4 = some true := by kernel_rfl
theorem us_11_1 : g_ref8_uses 11 1 = some false := by kernel_rfl
theorem us_11_2 : g_ref8_uses 11 2 = some true := by kernel_rfl
theorem us_11_3 : g_ref8_uses 11 3 = some true := by kernel_rfl
theorem us_11_4 : g_ref8_uses 11 4 = some false := by kernel_rfl
theorem us_12_1 : g_ref8_uses 12 1 = some false := by kernel_rfl
theorem us_12_2 : g_ref8_uses 12 2 = some false := by kernel_rfl
theorem us_12_3 : g_ref8_uses 12 3 = some false := by kernel_rfl
theorem us_12_4 : g_ref8_uses 12 4 = some false := by kernel_rfl
theorem us_13_1 : g_ref8_uses 13 1 = some false := by kernel_rfl
theorem us_13_2 : g_ref8_uses 13 2 = some false := by kernel_rfl
theorem us_13_3 : g_ref8_uses 13 3 = some false := by kernel_rfl
theorem us_13_4 : g_ref8_uses 13 4 = some false := by kernel_rfl
theorem us_14_1 : g_ref8_uses 14 1 = some false := by kernel_rfl
theorem us_14_2 : g_ref8_uses 14 2 = some false := by kernel_rfl
theorem us_14_3 : g_ref8_uses 14 3 = some false := by kernel_rfl
theorem us_14_4 : g_ref8_uses 14 4 = some false := by kernel_rfl
def usesB (k f : Int) : Bool :=
  if f = 1 then k == 1 || k == 2 || k == 3 || k == 4 || k == 5 || k == 7
  else if f = 2 then k == 2 || k == 4 || k == 6 || k == 7 || k == 8 || k == 11
  else if f = 3 then k == 4 || k == 8 || k == 11
  else k == 5 || k == 6 || k == 7 || k == 8 || k == 9 || k == 10
theorem n_ref8_uses (k f : Int) (hk : 0 ≤ k ∧ k ≤ 14) (hf : 1 ≤ f ∧ f ≤ 4) : g_ref8_uses k f = some (usesB k f) := by
  have h1 : k = 0 ∨ k = 1 ∨ k = 2 ∨ k = 3 ∨ k = 4 ∨ k = 5 ∨ k = 6 ∨ k = 7 ∨ k = 8 ∨ k = 9 ∨ k = 10 ∨ k = 11 ∨ k = 12 ∨ k = 13 ∨ k = 14 := by omega
  have h2 : f = 1 ∨ f = 2 ∨ f = 3 ∨ f = 4 := by omega
  rcases h1 with rfl | rfl | rfl | rfl | rfl | rfl | rfl | rfl | rfl | rfl | rfl | rfl | rfl | rfl | rfl <;> rcases h2 with rfl | rfl | rfl | rfl
  · exact us_0_1
  · exact us_0_2
  · exact us_0_3
  · exact us_0_4
  · exact us_1_1
  · exact us_1_2
  · exact us_1_3
  · exact us_1_4
  · exact us_2_1
  · exact us_2_2
  · exact us_2_3
  · exact us_2_4
  · exact us_3_1
  · exact us_3_2
  · exact us_3_3
  · exact us_3_4
  · exact us_4_1
  · exact us_4_2
  · exact us_4_3
  · exact us_4_4
  · exact us_5_1
  · exact us_5_2
  · exact us_5_3
  · exact us_5_4
  · exact us_6_1
  · exact us_6_2
  · exact us_6_3
  · exact us_6_4
  · exact us_7_1
  · exact us_7_2
  · exact us_7_3
  · exact us_7_4
  · exact us_8_1
  · exact us_8_2
  · exact us_8_3
  · exact us_8_4
  · exact us_9_1
  · exact us_9_2
  · exact us_9_3
  · exact us_9_4
  · exact us_10_1
  · exact us_10_2
  · exact us_10_3
  · exact us_10_4
  · exact us_11_1
  · exact us_11_2
  · exact us_11_3
  · exact us_11_4
  · exact us_12_1
  · exact us_12_2
  · exact us_12_3
  · exact us_12_4
  · exact us_13_1
  · exact us_13_2
  · exact us_13_3
  · exact us_13_4
  · exact us_14_1
  · exact us_14_2
  · exact us_14_3
  · exact us_14_4
def hasV (k f v bd : Int) : Bool := if usesB k f = true then inB v bd else v == 0
theorem n_ref8_has (k f v bd : Int) (hk : 0 ≤ k ∧ k ≤ 14) (hf : 1 ≤ f ∧ f ≤ 4) : g_ref8_has k f v bd = some (hasV k f v bd) := by
  unfold g_ref8_has G_ref8_uses G_ref8_in hasV
  simp only [n_ref8_uses k f hk hf, n_ref8_in, optC_some]
  cases usesB k f <;> rfl
def gBd (u : U) (k : Int) : Int := if k = 5 ∨ k = 6 then (u.1.length : Int) else if k = 7 ∨ k = 8 then (u.2.1.length : Int) else u.2.2.1
structure actOK (u : U) (c : C) (a : A) : Prop where
  k1 : 1 ≤ a.1
  k2 : a.1 ≤ 14
  n : fitB a.2.2.2.2.2.1 = true
  n0 : a.1 ≠ 1 → a.2.2.2.2.2.1 = 0
  nx : 0 ≤ a.2.2.2.2.2.2.2.1 ∧ a.2.2.2.2.2.2.2.1 < (c.2.length : Int)
  el : 0 ≤ a.2.2.2.2.2.2.2.2 ∧ a.2.2.2.2.2.2.2.2 < (c.2.length : Int)
  el0 : a.1 ≠ 11 → a.2.2.2.2.2.2.2.2 = 0
  op4 : a.1 = 4 → 1 ≤ a.2.2.2.2.2.2.1 ∧ a.2.2.2.2.2.2.1 ≤ 5
  op11 : a.1 = 11 → 1 ≤ a.2.2.2.2.2.2.1 ∧ a.2.2.2.2.2.2.1 ≤ 6
  op0 : a.1 ≠ 4 → a.1 ≠ 11 → a.2.2.2.2.2.2.1 = 0
  h1 : hasV a.1 1 a.2.1 c.1 = true
  h2 : hasV a.1 2 a.2.2.1 c.1 = true
  h3 : hasV a.1 3 a.2.2.2.1 c.1 = true
  h4 : hasV a.1 4 a.2.2.2.2.1 (gBd u a.1) = true
theorem act_1 (a0 : U) (a1 : C) (T X Y G N op nx el : Int) : g_ref8_act a0 a1 (1, T, X, Y, G, N, op, nx, el) =
  optC (G_ref1_Fits (N, ())) (none) fun d4 ↦
   bif !d4 then
   some false
 else optC (G_ref8_in (nx, (↑(List.length a1.2) : Int), ())) (none) fun d5 ↦
   bif !d5 then
   some false
 else optC (G_ref8_in (el, (↑(List.length a1.2) : Int), ())) (none) fun d6 ↦
   bif !d6 then
   some false
 else bif el != 0 then
   some false
 else bif op != 0 then
   some false
 else optC (G_ref8_has (1, 1, T, a1.1, ())) (none) fun d7 ↦
   bif d7 then
   optC (G_ref8_has (1, 2, X, 0, ())) (none) fun d8 ↦
   bif d8 then
   optC (G_ref8_has (1, 3, Y, 0, ())) (none) fun d9 ↦
   bif d9 then
   optC (G_ref8_has (1, 4, G, 0, ())) (none) fun d10 ↦
   some d10
 else some false
 else some false
 else some false := by kernel_rfl
theorem act_2 (a0 : U) (a1 : C) (T X Y G N op nx el : Int) : g_ref8_act a0 a1 (2, T, X, Y, G, N, op, nx, el) =
  bif N != 0 then
   some false
 else optC (G_ref1_Fits (N, ())) (none) fun d4 ↦
   bif !d4 then
   some false
 else optC (G_ref8_in (nx, (↑(List.length a1.2) : Int), ())) (none) fun d5 ↦
   bif !d5 then
   some false
 else optC (G_ref8_in (el, (↑(List.length a1.2) : Int), ())) (none) fun d6 ↦
   bif !d6 then
   some false
 else bif el != 0 then
   some false
 else bif op != 0 then
   some false
 else optC (G_ref8_has (2, 1, T, a1.1, ())) (none) fun d7 ↦
   bif d7 then
   optC (G_ref8_has (2, 2, X, a1.1, ())) (none) fun d8 ↦
   bif d8 then
   optC (G_ref8_has (2, 3, Y, 0, ())) (none) fun d9 ↦
   bif d9 then
   optC (G_ref8_has (2, 4, G, 0, ())) (none) fun d10 ↦
   some d10
 else some false
 else some false
 else some false := by kernel_rfl
theorem act_3 (a0 : U) (a1 : C) (T X Y G N op nx el : Int) : g_ref8_act a0 a1 (3, T, X, Y, G, N, op, nx, el) =
  bif N != 0 then
   some false
 else optC (G_ref1_Fits (N, ())) (none) fun d4 ↦
   bif !d4 then
   some false
 else optC (G_ref8_in (nx, (↑(List.length a1.2) : Int), ())) (none) fun d5 ↦
   bif !d5 then
   some false
 else optC (G_ref8_in (el, (↑(List.length a1.2) : Int), ())) (none) fun d6 ↦
   bif !d6 then
   some false
 else bif el != 0 then
   some false
 else bif op != 0 then
   some false
 else optC (G_ref8_has (3, 1, T, a1.1, ())) (none) fun d7 ↦
   bif d7 then
   optC (G_ref8_has (3, 2, X, 0, ())) (none) fun d8 ↦
   bif d8 then
   optC (G_ref8_has (3, 3, Y, 0, ())) (none) fun d9 ↦
   bif d9 then
   optC (G_ref8_has (3, 4, G, 0, ())) (none) fun d10 ↦
   some d10
 else some false
 else some false
 else some false := by kernel_rfl
theorem act_4 (a0 : U) (a1 : C) (T X Y G N op nx el : Int) : g_ref8_act a0 a1 (4, T, X, Y, G, N, op, nx, el) =
  bif N != 0 then
   some false
 else optC (G_ref1_Fits (N, ())) (none) fun d4 ↦
   bif !d4 then
   some false
 else optC (G_ref8_in (nx, (↑(List.length a1.2) : Int), ())) (none) fun d5 ↦
   bif !d5 then
   some false
 else optC (G_ref8_in (el, (↑(List.length a1.2) : Int), ())) (none) fun d6 ↦
   bif !d6 then
   some false
 else bif el != 0 then
   some false
 else bif decide (op < 1) then
   some false
 else bif decide (op ≥ 6) then
   some false
 else optC (G_ref8_has (4, 1, T, a1.1, ())) (none) fun d7 ↦
   bif d7 then
   optC (G_ref8_has (4, 2, X, a1.1, ())) (none) fun d8 ↦
   bif d8 then
   optC (G_ref8_has (4, 3, Y, a1.1, ())) (none) fun d9 ↦
   bif d9 then
   optC (G_ref8_has (4, 4, G, 0, ())) (none) fun d10 ↦
   some d10
 else some false
 else some false
 else some false := by kernel_rfl
theorem act_5 (a0 : U) (a1 : C) (T X Y G N op nx el : Int) : g_ref8_act a0 a1 (5, T, X, Y, G, N, op, nx, el) =
  bif N != 0 then
   some false
 else optC (G_ref1_Fits (N, ())) (none) fun d4 ↦
   bif !d4 then
   some false
 else optC (G_ref8_in (nx, (↑(List.length a1.2) : Int), ())) (none) fun d5 ↦
   bif !d5 then
   some false
 else optC (G_ref8_in (el, (↑(List.length a1.2) : Int), ())) (none) fun d6 ↦
   bif !d6 then
   some false
 else bif el != 0 then
   some false
 else bif op != 0 then
   some false
 else optC (G_ref8_has (5, 1, T, a1.1, ())) (none) fun d7 ↦
   bif d7 then
   optC (G_ref8_has (5, 2, X, 0, ())) (none) fun d8 ↦
   bif d8 then
   optC (G_ref8_has (5, 3, Y, 0, ())) (none) fun d9 ↦
   bif d9 then
   optC (G_ref8_has (5, 4, G, (↑(List.length a0.1) : Int), ())) (none) fun d10 ↦
   some d10
 else some false
 else some false
 else some false := by kernel_rfl
theorem act_6 (a0 : U) (a1 : C) (T X Y G N op nx el : Int) : g_ref8_act a0 a1 (6, T, X, Y, G, N, op, nx, el) =
  bif N != 0 then
   some false
 else optC (G_ref1_Fits (N, ())) (none) fun d4 ↦
   bif !d4 then
   some false
 else optC (G_ref8_in (nx, (↑(List.length a1.2) : Int), ())) (none) fun d5 ↦
   bif !d5 then
   some false
 else optC (G_ref8_in (el, (↑(List.length a1.2) : Int), ())) (none) fun d6 ↦
   bif !d6 then
   some false
 else bif el != 0 then
   some false
 else bif op != 0 then
   some false
 else optC (G_ref8_has (6, 1, T, 0, ())) (none) fun d7 ↦
   bif d7 then
   optC (G_ref8_has (6, 2, X, a1.1, ())) (none) fun d8 ↦
   bif d8 then
   optC (G_ref8_has (6, 3, Y, 0, ())) (none) fun d9 ↦
   bif d9 then
   optC (G_ref8_has (6, 4, G, (↑(List.length a0.1) : Int), ())) (none) fun d10 ↦
   some d10
 else some false
 else some false
 else some false := by kernel_rfl
theorem act_7 (a0 : U) (a1 : C) (T X Y G N op nx el : Int) : g_ref8_act a0 a1 (7, T, X, Y, G, N, op, nx, el) =
  bif N != 0 then
   some false
 else optC (G_ref1_Fits (N, ())) (none) fun d4 ↦
   bif !d4 then
   some false
 else optC (G_ref8_in (nx, (↑(List.length a1.2) : Int), ())) (none) fun d5 ↦
   bif !d5 then
   some false
 else optC (G_ref8_in (el, (↑(List.length a1.2) : Int), ())) (none) fun d6 ↦
   bif !d6 then
   some false
 else bif el != 0 then
   some false
 else bif op != 0 then
   some false
 else optC (G_ref8_has (7, 1, T, a1.1, ())) (none) fun d7 ↦
   bif d7 then
   optC (G_ref8_has (7, 2, X, a1.1, ())) (none) fun d8 ↦
   bif d8 then
   optC (G_ref8_has (7, 3, Y, 0, ())) (none) fun d9 ↦
   bif d9 then
   optC (G_ref8_has (7, 4, G, (↑(List.length a0.2.1) : Int), ())) (none) fun d10 ↦
   some d10
 else some false
 else some false
 else some false := by kernel_rfl
theorem act_8 (a0 : U) (a1 : C) (T X Y G N op nx el : Int) : g_ref8_act a0 a1 (8, T, X, Y, G, N, op, nx, el) =
  bif N != 0 then
   some false
 else optC (G_ref1_Fits (N, ())) (none) fun d4 ↦
   bif !d4 then
   some false
 else optC (G_ref8_in (nx, (↑(List.length a1.2) : Int), ())) (none) fun d5 ↦
   bif !d5 then
   some false
 else optC (G_ref8_in (el, (↑(List.length a1.2) : Int), ())) (none) fun d6 ↦
   bif !d6 then
   some false
 else bif el != 0 then
   some false
 else bif op != 0 then
   some false
 else optC (G_ref8_has (8, 1, T, 0, ())) (none) fun d7 ↦
   bif d7 then
   optC (G_ref8_has (8, 2, X, a1.1, ())) (none) fun d8 ↦
   bif d8 then
   optC (G_ref8_has (8, 3, Y, a1.1, ())) (none) fun d9 ↦
   bif d9 then
   optC (G_ref8_has (8, 4, G, (↑(List.length a0.2.1) : Int), ())) (none) fun d10 ↦
   some d10
 else some false
 else some false
 else some false := by kernel_rfl
theorem act_9 (a0 : U) (a1 : C) (T X Y G N op nx el : Int) : g_ref8_act a0 a1 (9, T, X, Y, G, N, op, nx, el) =
  bif N != 0 then
   some false
 else optC (G_ref1_Fits (N, ())) (none) fun d4 ↦
   bif !d4 then
   some false
 else optC (G_ref8_in (nx, (↑(List.length a1.2) : Int), ())) (none) fun d5 ↦
   bif !d5 then
   some false
 else optC (G_ref8_in (el, (↑(List.length a1.2) : Int), ())) (none) fun d6 ↦
   bif !d6 then
   some false
 else bif el != 0 then
   some false
 else bif op != 0 then
   some false
 else optC (G_ref8_has (9, 1, T, 0, ())) (none) fun d7 ↦
   bif d7 then
   optC (G_ref8_has (9, 2, X, 0, ())) (none) fun d8 ↦
   bif d8 then
   optC (G_ref8_has (9, 3, Y, 0, ())) (none) fun d9 ↦
   bif d9 then
   optC (G_ref8_has (9, 4, G, a0.2.2.1, ())) (none) fun d10 ↦
   some d10
 else some false
 else some false
 else some false := by kernel_rfl
theorem act_10 (a0 : U) (a1 : C) (T X Y G N op nx el : Int) : g_ref8_act a0 a1 (10, T, X, Y, G, N, op, nx, el) =
  bif N != 0 then
   some false
 else optC (G_ref1_Fits (N, ())) (none) fun d4 ↦
   bif !d4 then
   some false
 else optC (G_ref8_in (nx, (↑(List.length a1.2) : Int), ())) (none) fun d5 ↦
   bif !d5 then
   some false
 else optC (G_ref8_in (el, (↑(List.length a1.2) : Int), ())) (none) fun d6 ↦
   bif !d6 then
   some false
 else bif el != 0 then
   some false
 else bif op != 0 then
   some false
 else optC (G_ref8_has (10, 1, T, 0, ())) (none) fun d7 ↦
   bif d7 then
   optC (G_ref8_has (10, 2, X, 0, ())) (none) fun d8 ↦
   bif d8 then
   optC (G_ref8_has (10, 3, Y, 0, ())) (none) fun d9 ↦
   bif d9 then
   optC (G_ref8_has (10, 4, G, a0.2.2.1, ())) (none) fun d10 ↦
   some d10
 else some false
 else some false
 else some false := by kernel_rfl
theorem act_11 (a0 : U) (a1 : C) (T X Y G N op nx el : Int) : g_ref8_act a0 a1 (11, T, X, Y, G, N, op, nx, el) =
  bif N != 0 then
   some false
 else optC (G_ref1_Fits (N, ())) (none) fun d4 ↦
   bif !d4 then
   some false
 else optC (G_ref8_in (nx, (↑(List.length a1.2) : Int), ())) (none) fun d5 ↦
   bif !d5 then
   some false
 else optC (G_ref8_in (el, (↑(List.length a1.2) : Int), ())) (none) fun d6 ↦
   bif !d6 then
   some false
 else bif decide (op < 1) then
   some false
 else bif decide (op ≥ 7) then
   some false
 else optC (G_ref8_has (11, 1, T, 0, ())) (none) fun d7 ↦
   bif d7 then
   optC (G_ref8_has (11, 2, X, a1.1, ())) (none) fun d8 ↦
   bif d8 then
   optC (G_ref8_has (11, 3, Y, a1.1, ())) (none) fun d9 ↦
   bif d9 then
   optC (G_ref8_has (11, 4, G, 0, ())) (none) fun d10 ↦
   some d10
 else some false
 else some false
 else some false := by kernel_rfl
theorem act_12 (a0 : U) (a1 : C) (T X Y G N op nx el : Int) : g_ref8_act a0 a1 (12, T, X, Y, G, N, op, nx, el) =
  bif N != 0 then
   some false
 else optC (G_ref1_Fits (N, ())) (none) fun d4 ↦
   bif !d4 then
   some false
 else optC (G_ref8_in (nx, (↑(List.length a1.2) : Int), ())) (none) fun d5 ↦
   bif !d5 then
   some false
 else optC (G_ref8_in (el, (↑(List.length a1.2) : Int), ())) (none) fun d6 ↦
   bif !d6 then
   some false
 else bif el != 0 then
   some false
 else bif op != 0 then
   some false
 else optC (G_ref8_has (12, 1, T, 0, ())) (none) fun d7 ↦
   bif d7 then
   optC (G_ref8_has (12, 2, X, 0, ())) (none) fun d8 ↦
   bif d8 then
   optC (G_ref8_has (12, 3, Y, 0, ())) (none) fun d9 ↦
   bif d9 then
   optC (G_ref8_has (12, 4, G, 0, ())) (none) fun d10 ↦
   some d10
 else some false
 else some false
 else some false := by kernel_rfl
theorem act_13 (a0 : U) (a1 : C) (T X Y G N op nx el : Int) : g_ref8_act a0 a1 (13, T, X, Y, G, N, op, nx, el) =
  bif N != 0 then
   some false
 else optC (G_ref1_Fits (N, ())) (none) fun d4 ↦
   bif !d4 then
   some false
 else optC (G_ref8_in (nx, (↑(List.length a1.2) : Int), ())) (none) fun d5 ↦
   bif !d5 then
   some false
 else optC (G_ref8_in (el, (↑(List.length a1.2) : Int), ())) (none) fun d6 ↦
   bif !d6 then
   some false
 else bif el != 0 then
   some false
 else bif op != 0 then
   some false
 else optC (G_ref8_has (13, 1, T, 0, ())) (none) fun d7 ↦
   bif d7 then
   optC (G_ref8_has (13, 2, X, 0, ())) (none) fun d8 ↦
   bif d8 then
   optC (G_ref8_has (13, 3, Y, 0, ())) (none) fun d9 ↦
   bif d9 then
   optC (G_ref8_has (13, 4, G, 0, ())) (none) fun d10 ↦
   some d10
 else some false
 else some false
 else some false := by kernel_rfl
theorem act_14 (a0 : U) (a1 : C) (T X Y G N op nx el : Int) : g_ref8_act a0 a1 (14, T, X, Y, G, N, op, nx, el) =
  bif N != 0 then
   some false
 else optC (G_ref1_Fits (N, ())) (none) fun d4 ↦
   bif !d4 then
   some false
 else optC (G_ref8_in (nx, (↑(List.length a1.2) : Int), ())) (none) fun d5 ↦
   bif !d5 then
   some false
 else optC (G_ref8_in (el, (↑(List.length a1.2) : Int), ())) (none) fun d6 ↦
   bif !d6 then
   some false
 else bif el != 0 then
   some false
 else bif op != 0 then
   some false
 else optC (G_ref8_has (14, 1, T, 0, ())) (none) fun d7 ↦
   bif d7 then
   optC (G_ref8_has (14, 2, X, 0, ())) (none) fun d8 ↦
   bif d8 then
   optC (G_ref8_has (14, 3, Y, 0, ())) (none) fun d9 ↦
   bif d9 then
   optC (G_ref8_has (14, 4, G, 0, ())) (none) fun d10 ↦
   some d10
 else some false
 else some false
 else some false := by kernel_rfl
theorem act_ok_1 (u : U) (c : C) (T X Y G N op nx el : Int) : ∃ b, g_ref8_act u c (1, T, X, Y, G, N, op, nx, el) = some b ∧ (b = true → actOK u c (1, T, X, Y, G, N, op, nx, el)) := by
  rw [act_1]
  simp only [G_ref1_Fits, n_ref1_Fits, G_ref8_in, n_ref8_in, G_ref8_has, n_ref8_has _ _ _ _ (show (0 : Int) ≤ 1 ∧ (1 : Int) ≤ 14 by decide) (show (1 : Int) ≤ 1 ∧ (1 : Int) ≤ 4 by decide), n_ref8_has _ _ _ _ (show (0 : Int) ≤ 1 ∧ (1 : Int) ≤ 14 by decide) (show (1 : Int) ≤ 2 ∧ (2 : Int) ≤ 4 by decide), n_ref8_has _ _ _ _ (show (0 : Int) ≤ 1 ∧ (1 : Int) ≤ 14 by decide) (show (1 : Int) ≤ 3 ∧ (3 : Int) ≤ 4 by decide), n_ref8_has _ _ _ _ (show (0 : Int) ≤ 1 ∧ (1 : Int) ≤ 14 by decide) (show (1 : Int) ≤ 4 ∧ (4 : Int) ≤ 4 by decide), optC_some, cond_eq_ite]
  (repeat' split) <;> (refine ⟨_, rfl, fun hb => ?_⟩) <;> first | (cases hb; done) | skip
  all_goals (constructor <;> simp_all [inB, hasV, usesB, gBd] <;> omega)
theorem act_ok_2 (u : U) (c : C) (T X Y G N op nx el : Int) : ∃ b, g_ref8_act u c (2, T, X, Y, G, N, op, nx, el) = some b ∧ (b = true → actOK u c (2, T, X, Y, G, N, op, nx, el)) := by
  rw [act_2]
  simp only [G_ref1_Fits, n_ref1_Fits, G_ref8_in, n_ref8_in, G_ref8_has, n_ref8_has _ _ _ _ (show (0 : Int) ≤ 2 ∧ (2 : Int) ≤ 14 by decide) (show (1 : Int) ≤ 1 ∧ (1 : Int) ≤ 4 by decide), n_ref8_has _ _ _ _ (show (0 : Int) ≤ 2 ∧ (2 : Int) ≤ 14 by decide) (show (1 : Int) ≤ 2 ∧ (2 : Int) ≤ 4 by decide), n_ref8_has _ _ _ _ (show (0 : Int) ≤ 2 ∧ (2 : Int) ≤ 14 by decide) (show (1 : Int) ≤ 3 ∧ (3 : Int) ≤ 4 by decide), n_ref8_has _ _ _ _ (show (0 : Int) ≤ 2 ∧ (2 : Int) ≤ 14 by decide) (show (1 : Int) ≤ 4 ∧ (4 : Int) ≤ 4 by decide), optC_some, cond_eq_ite]
  (repeat' split) <;> (refine ⟨_, rfl, fun hb => ?_⟩) <;> first | (cases hb; done) | skip
  all_goals (constructor <;> simp_all [inB, hasV, usesB, gBd] <;> omega)
theorem act_ok_3 (u : U) (c : C) (T X Y G N op nx el : Int) : ∃ b, g_ref8_act u c (3, T, X, Y, G, N, op, nx, el) = some b ∧ (b = true → actOK u c (3, T, X, Y, G, N, op, nx, el)) := by
  rw [act_3]
  simp only [G_ref1_Fits, n_ref1_Fits, G_ref8_in, n_ref8_in, G_ref8_has, n_ref8_has _ _ _ _ (show (0 : Int) ≤ 3 ∧ (3 : Int) ≤ 14 by decide) (show (1 : Int) ≤ 1 ∧ (1 : Int) ≤ 4 by decide), n_ref8_has _ _ _ _ (show (0 : Int) ≤ 3 ∧ (3 : Int) ≤ 14 by decide) (show (1 : Int) ≤ 2 ∧ (2 : Int) ≤ 4 by decide), n_ref8_has _ _ _ _ (show (0 : Int) ≤ 3 ∧ (3 : Int) ≤ 14 by decide) (show (1 : Int) ≤ 3 ∧ (3 : Int) ≤ 4 by decide), n_ref8_has _ _ _ _ (show (0 : Int) ≤ 3 ∧ (3 : Int) ≤ 14 by decide) (show (1 : Int) ≤ 4 ∧ (4 : Int) ≤ 4 by decide), optC_some, cond_eq_ite]
  (repeat' split) <;> (refine ⟨_, rfl, fun hb => ?_⟩) <;> first | (cases hb; done) | skip
  all_goals (constructor <;> simp_all [inB, hasV, usesB, gBd] <;> omega)
theorem act_ok_4 (u : U) (c : C) (T X Y G N op nx el : Int) : ∃ b, g_ref8_act u c (4, T, X, Y, G, N, op, nx, el) = some b ∧ (b = true → actOK u c (4, T, X, Y, G, N, op, nx, el)) := by
  rw [act_4]
  simp only [G_ref1_Fits, n_ref1_Fits, G_ref8_in, n_ref8_in, G_ref8_has, n_ref8_has _ _ _ _ (show (0 : Int) ≤ 4 ∧ (4 : Int) ≤ 14 by decide) (show (1 : Int) ≤ 1 ∧ (1 : Int) ≤ 4 by decide), n_ref8_has _ _ _ _ (show (0 : Int) ≤ 4 ∧ (4 : Int) ≤ 14 by decide) (show (1 : Int) ≤ 2 ∧ (2 : Int) ≤ 4 by decide), n_ref8_has _ _ _ _ (show (0 : Int) ≤ 4 ∧ (4 : Int) ≤ 14 by decide) (show (1 : Int) ≤ 3 ∧ (3 : Int) ≤ 4 by decide), n_ref8_has _ _ _ _ (show (0 : Int) ≤ 4 ∧ (4 : Int) ≤ 14 by decide) (show (1 : Int) ≤ 4 ∧ (4 : Int) ≤ 4 by decide), optC_some, cond_eq_ite]
  (repeat' split) <;> (refine ⟨_, rfl, fun hb => ?_⟩) <;> first | (cases hb; done) | skip
  all_goals (constructor <;> simp_all [inB, hasV, usesB, gBd] <;> omega)
theorem act_ok_5 (u : U) (c : C) (T X Y G N op nx el : Int) : ∃ b, g_ref8_act u c (5, T, X, Y, G, N, op, nx, el) = some b ∧ (b = true → actOK u c (5, T, X, Y, G, N, op, nx, el)) := by
  rw [act_5]
  simp only [G_ref1_Fits, n_ref1_Fits, G_ref8_in, n_ref8_in, G_ref8_has, n_ref8_has _ _ _ _ (show (0 : Int) ≤ 5 ∧ (5 : Int) ≤ 14 by decide) (show (1 : Int) ≤ 1 ∧ (1 : Int) ≤ 4 by decide), n_ref8_has _ _ _ _ (show (0 : Int) ≤ 5 ∧ (5 : Int) ≤ 14 by decide) (show (1 : Int) ≤ 2 ∧ (2 : Int) ≤ 4 by decide), n_ref8_has _ _ _ _ (show (0 : Int) ≤ 5 ∧ (5 : Int) ≤ 14 by decide) (show (1 : Int) ≤ 3 ∧ (3 : Int) ≤ 4 by decide), n_ref8_has _ _ _ _ (show (0 : Int) ≤ 5 ∧ (5 : Int) ≤ 14 by decide) (show (1 : Int) ≤ 4 ∧ (4 : Int) ≤ 4 by decide), optC_some, cond_eq_ite]
  (repeat' split) <;> (refine ⟨_, rfl, fun hb => ?_⟩) <;> first | (cases hb; done) | skip
  all_goals (constructor <;> simp_all [inB, hasV, usesB, gBd] <;> omega)
theorem act_ok_6 (u : U) (c : C) (T X Y G N op nx el : Int) : ∃ b, g_ref8_act u c (6, T, X, Y, G, N, op, nx, el) = some b ∧ (b = true → actOK u c (6, T, X, Y, G, N, op, nx, el)) := by
  rw [act_6]
  simp only [G_ref1_Fits, n_ref1_Fits, G_ref8_in, n_ref8_in, G_ref8_has, n_ref8_has _ _ _ _ (show (0 : Int) ≤ 6 ∧ (6 : Int) ≤ 14 by decide) (show (1 : Int) ≤ 1 ∧ (1 : Int) ≤ 4 by decide), n_ref8_has _ _ _ _ (show (0 : Int) ≤ 6 ∧ (6 : Int) ≤ 14 by decide) (show (1 : Int) ≤ 2 ∧ (2 : Int) ≤ 4 by decide), n_ref8_has _ _ _ _ (show (0 : Int) ≤ 6 ∧ (6 : Int) ≤ 14 by decide) (show (1 : Int) ≤ 3 ∧ (3 : Int) ≤ 4 by decide), n_ref8_has _ _ _ _ (show (0 : Int) ≤ 6 ∧ (6 : Int) ≤ 14 by decide) (show (1 : Int) ≤ 4 ∧ (4 : Int) ≤ 4 by decide), optC_some, cond_eq_ite]
  (repeat' split) <;> (refine ⟨_, rfl, fun hb => ?_⟩) <;> first | (cases hb; done) | skip
  all_goals (constructor <;> simp_all [inB, hasV, usesB, gBd] <;> omega)
theorem act_ok_7 (u : U) (c : C) (T X Y G N op nx el : Int) : ∃ b, g_ref8_act u c (7, T, X, Y, G, N, op, nx, el) = some b ∧ (b = true → actOK u c (7, T, X, Y, G, N, op, nx, el)) := by
  rw [act_7]
  simp only [G_ref1_Fits, n_ref1_Fits, G_ref8_in, n_ref8_in, G_ref8_has, n_ref8_has _ _ _ _ (show (0 : Int) ≤ 7 ∧ (7 : Int) ≤ 14 by decide) (show (1 : Int) ≤ 1 ∧ (1 : Int) ≤ 4 by decide), n_ref8_has _ _ _ _ (show (0 : Int) ≤ 7 ∧ (7 : Int) ≤ 14 by decide) (show (1 : Int) ≤ 2 ∧ (2 : Int) ≤ 4 by decide), n_ref8_has _ _ _ _ (show (0 : Int) ≤ 7 ∧ (7 : Int) ≤ 14 by decide) (show (1 : Int) ≤ 3 ∧ (3 : Int) ≤ 4 by decide), n_ref8_has _ _ _ _ (show (0 : Int) ≤ 7 ∧ (7 : Int) ≤ 14 by decide) (show (1 : Int) ≤ 4 ∧ (4 : Int) ≤ 4 by decide), optC_some, cond_eq_ite]
  (repeat' split) <;> (refine ⟨_, rfl, fun hb => ?_⟩) <;> first | (cases hb; done) | skip
  all_goals (constructor <;> simp_all [inB, hasV, usesB, gBd] <;> omega)
theorem act_ok_8 (u : U) (c : C) (T X Y G N op nx el : Int) : ∃ b, g_ref8_act u c (8, T, X, Y, G, N, op, nx, el) = some b ∧ (b = true → actOK u c (8, T, X, Y, G, N, op, nx, el)) := by
  rw [act_8]
  simp only [G_ref1_Fits, n_ref1_Fits, G_ref8_in, n_ref8_in, G_ref8_has, n_ref8_has _ _ _ _ (show (0 : Int) ≤ 8 ∧ (8 : Int) ≤ 14 by decide) (show (1 : Int) ≤ 1 ∧ (1 : Int) ≤ 4 by decide), n_ref8_has _ _ _ _ (show (0 : Int) ≤ 8 ∧ (8 : Int) ≤ 14 by decide) (show (1 : Int) ≤ 2 ∧ (2 : Int) ≤ 4 by decide), n_ref8_has _ _ _ _ (show (0 : Int) ≤ 8 ∧ (8 : Int) ≤ 14 by decide) (show (1 : Int) ≤ 3 ∧ (3 : Int) ≤ 4 by decide), n_ref8_has _ _ _ _ (show (0 : Int) ≤ 8 ∧ (8 : Int) ≤ 14 by decide) (show (1 : Int) ≤ 4 ∧ (4 : Int) ≤ 4 by decide), optC_some, cond_eq_ite]
  (repeat' split) <;> (refine ⟨_, rfl, fun hb => ?_⟩) <;> first | (cases hb; done) | skip
  all_goals (constructor <;> simp_all [inB, hasV, usesB, gBd] <;> omega)
theorem act_ok_9 (u : U) (c : C) (T X Y G N op nx el : Int) : ∃ b, g_ref8_act u c (9, T, X, Y, G, N, op, nx, el) = some b ∧ (b = true → actOK u c (9, T, X, Y, G, N, op, nx, el)) := by
  rw [act_9]
  simp only [G_ref1_Fits, n_ref1_Fits, G_ref8_in, n_ref8_in, G_ref8_has, n_ref8_has _ _ _ _ (show (0 : Int) ≤ 9 ∧ (9 : Int) ≤ 14 by decide) (show (1 : Int) ≤ 1 ∧ (1 : Int) ≤ 4 by decide), n_ref8_has _ _ _ _ (show (0 : Int) ≤ 9 ∧ (9 : Int) ≤ 14 by decide) (show (1 : Int) ≤ 2 ∧ (2 : Int) ≤ 4 by decide), n_ref8_has _ _ _ _ (show (0 : Int) ≤ 9 ∧ (9 : Int) ≤ 14 by decide) (show (1 : Int) ≤ 3 ∧ (3 : Int) ≤ 4 by decide), n_ref8_has _ _ _ _ (show (0 : Int) ≤ 9 ∧ (9 : Int) ≤ 14 by decide) (show (1 : Int) ≤ 4 ∧ (4 : Int) ≤ 4 by decide), optC_some, cond_eq_ite]
  (repeat' split) <;> (refine ⟨_, rfl, fun hb => ?_⟩) <;> first | (cases hb; done) | skip
  all_goals (constructor <;> simp_all [inB, hasV, usesB, gBd] <;> omega)
theorem act_ok_10 (u : U) (c : C) (T X Y G N op nx el : Int) : ∃ b, g_ref8_act u c (10, T, X, Y, G, N, op, nx, el) = some b ∧ (b = true → actOK u c (10, T, X, Y, G, N, op, nx, el)) := by
  rw [act_10]
  simp only [G_ref1_Fits, n_ref1_Fits, G_ref8_in, n_ref8_in, G_ref8_has, n_ref8_has _ _ _ _ (show (0 : Int) ≤ 10 ∧ (10 : Int) ≤ 14 by decide) (show (1 : Int) ≤ 1 ∧ (1 : Int) ≤ 4 by decide), n_ref8_has _ _ _ _ (show (0 : Int) ≤ 10 ∧ (10 : Int) ≤ 14 by decide) (show (1 : Int) ≤ 2 ∧ (2 : Int) ≤ 4 by decide), n_ref8_has _ _ _ _ (show (0 : Int) ≤ 10 ∧ (10 : Int) ≤ 14 by decide) (show (1 : Int) ≤ 3 ∧ (3 : Int) ≤ 4 by decide), n_ref8_has _ _ _ _ (show (0 : Int) ≤ 10 ∧ (10 : Int) ≤ 14 by decide) (show (1 : Int) ≤ 4 ∧ (4 : Int) ≤ 4 by decide), optC_some, cond_eq_ite]
  (repeat' split) <;> (refine ⟨_, rfl, fun hb => ?_⟩) <;> first | (cases hb; done) | skip
  all_goals (constructor <;> simp_all [inB, hasV, usesB, gBd] <;> omega)
theorem act_ok_11 (u : U) (c : C) (T X Y G N op nx el : Int) : ∃ b, g_ref8_act u c (11, T, X, Y, G, N, op, nx, el) = some b ∧ (b = true → actOK u c (11, T, X, Y, G, N, op, nx, el)) := by
  rw [act_11]
  simp only [G_ref1_Fits, n_ref1_Fits, G_ref8_in, n_ref8_in, G_ref8_has, n_ref8_has _ _ _ _ (show (0 : Int) ≤ 11 ∧ (11 : Int) ≤ 14 by decide) (show (1 : Int) ≤ 1 ∧ (1 : Int) ≤ 4 by decide), n_ref8_has _ _ _ _ (show (0 : Int) ≤ 11 ∧ (11 : Int) ≤ 14 by decide) (show (1 : Int) ≤ 2 ∧ (2 : Int) ≤ 4 by decide), n_ref8_has _ _ _ _ (show (0 : Int) ≤ 11 ∧ (11 : Int) ≤ 14 by decide) (show (1 : Int) ≤ 3 ∧ (3 : Int) ≤ 4 by decide), n_ref8_has _ _ _ _ (show (0 : Int) ≤ 11 ∧ (11 : Int) ≤ 14 by decide) (show (1 : Int) ≤ 4 ∧ (4 : Int) ≤ 4 by decide), optC_some, cond_eq_ite]
  (repeat' split) <;> (refine ⟨_, rfl, fun hb => ?_⟩) <;> first | (cases hb; done) | skip
  all_goals (constructor <;> simp_all [inB, hasV, usesB, gBd] <;> omega)
theorem act_ok_12 (u : U) (c : C) (T X Y G N op nx el : Int) : ∃ b, g_ref8_act u c (12, T, X, Y, G, N, op, nx, el) = some b ∧ (b = true → actOK u c (12, T, X, Y, G, N, op, nx, el)) := by
  rw [act_12]
  simp only [G_ref1_Fits, n_ref1_Fits, G_ref8_in, n_ref8_in, G_ref8_has, n_ref8_has _ _ _ _ (show (0 : Int) ≤ 12 ∧ (12 : Int) ≤ 14 by decide) (show (1 : Int) ≤ 1 ∧ (1 : Int) ≤ 4 by decide), n_ref8_has _ _ _ _ (show (0 : Int) ≤ 12 ∧ (12 : Int) ≤ 14 by decide) (show (1 : Int) ≤ 2 ∧ (2 : Int) ≤ 4 by decide), n_ref8_has _ _ _ _ (show (0 : Int) ≤ 12 ∧ (12 : Int) ≤ 14 by decide) (show (1 : Int) ≤ 3 ∧ (3 : Int) ≤ 4 by decide), n_ref8_has _ _ _ _ (show (0 : Int) ≤ 12 ∧ (12 : Int) ≤ 14 by decide) (show (1 : Int) ≤ 4 ∧ (4 : Int) ≤ 4 by decide), optC_some, cond_eq_ite]
  (repeat' split) <;> (refine ⟨_, rfl, fun hb => ?_⟩) <;> first | (cases hb; done) | skip
  all_goals (constructor <;> simp_all [inB, hasV, usesB, gBd] <;> omega)
theorem act_ok_13 (u : U) (c : C) (T X Y G N op nx el : Int) : ∃ b, g_ref8_act u c (13, T, X, Y, G, N, op, nx, el) = some b ∧ (b = true → actOK u c (13, T, X, Y, G, N, op, nx, el)) := by
  rw [act_13]
  simp only [G_ref1_Fits, n_ref1_Fits, G_ref8_in, n_ref8_in, G_ref8_has, n_ref8_has _ _ _ _ (show (0 : Int) ≤ 13 ∧ (13 : Int) ≤ 14 by decide) (show (1 : Int) ≤ 1 ∧ (1 : Int) ≤ 4 by decide), n_ref8_has _ _ _ _ (show (0 : Int) ≤ 13 ∧ (13 : Int) ≤ 14 by decide) (show (1 : Int) ≤ 2 ∧ (2 : Int) ≤ 4 by decide), n_ref8_has _ _ _ _ (show (0 : Int) ≤ 13 ∧ (13 : Int) ≤ 14 by decide) (show (1 : Int) ≤ 3 ∧ (3 : Int) ≤ 4 by decide), n_ref8_has _ _ _ _ (show (0 : Int) ≤ 13 ∧ (13 : Int) ≤ 14 by decide) (show (1 : Int) ≤ 4 ∧ (4 : Int) ≤ 4 by decide), optC_some, cond_eq_ite]
  (repeat' split) <;> (refine ⟨_, rfl, fun hb => ?_⟩) <;> first | (cases hb; done) | skip
  all_goals (constructor <;> simp_all [inB, hasV, usesB, gBd] <;> omega)
theorem act_ok_14 (u : U) (c : C) (T X Y G N op nx el : Int) : ∃ b, g_ref8_act u c (14, T, X, Y, G, N, op, nx, el) = some b ∧ (b = true → actOK u c (14, T, X, Y, G, N, op, nx, el)) := by
  rw [act_14]
  simp only [G_ref1_Fits, n_ref1_Fits, G_ref8_in, n_ref8_in, G_ref8_has, n_ref8_has _ _ _ _ (show (0 : Int) ≤ 14 ∧ (14 : Int) ≤ 14 by decide) (show (1 : Int) ≤ 1 ∧ (1 : Int) ≤ 4 by decide), n_ref8_has _ _ _ _ (show (0 : Int) ≤ 14 ∧ (14 : Int) ≤ 14 by decide) (show (1 : Int) ≤ 2 ∧ (2 : Int) ≤ 4 by decide), n_ref8_has _ _ _ _ (show (0 : Int) ≤ 14 ∧ (14 : Int) ≤ 14 by decide) (show (1 : Int) ≤ 3 ∧ (3 : Int) ≤ 4 by decide), n_ref8_has _ _ _ _ (show (0 : Int) ≤ 14 ∧ (14 : Int) ≤ 14 by decide) (show (1 : Int) ≤ 4 ∧ (4 : Int) ≤ 4 by decide), optC_some, cond_eq_ite]
  (repeat' split) <;> (refine ⟨_, rfl, fun hb => ?_⟩) <;> first | (cases hb; done) | skip
  all_goals (constructor <;> simp_all [inB, hasV, usesB, gBd] <;> omega)
theorem act_no (u : U) (c : C) (a : A) (h : ¬ (1 ≤ a.1 ∧ a.1 ≤ 14)) : g_ref8_act u c a = some false := by
  unfold g_ref8_act
  have f : ∀ k : Int, 1 ≤ k → k ≤ 14 → (a.1 == k) = false := fun k h1 h2 => by
    rw [beq_eq_false_iff_ne]; omega
  simp only [f 1 (by decide) (by decide), f 2 (by decide) (by decide), f 3 (by decide) (by decide), f 4 (by decide) (by decide), f 5 (by decide) (by decide), f 6 (by decide) (by decide), f 7 (by decide) (by decide), f 8 (by decide) (by decide), f 9 (by decide) (by decide), f 10 (by decide) (by decide), f 11 (by decide) (by decide), f 12 (by decide) (by decide), f 13 (by decide) (by decide), f 14 (by decide) (by decide), cond_false]
theorem n_ref8_act (u : U) (c : C) (a : A) : ∃ b, g_ref8_act u c a = some b ∧ (b = true → actOK u c a) := by
  by_cases h : 1 ≤ a.1 ∧ a.1 ≤ 14
  · obtain ⟨k, T, X, Y, G, N, op, nx, el⟩ := a
    have h1 : k = 1 ∨ k = 2 ∨ k = 3 ∨ k = 4 ∨ k = 5 ∨ k = 6 ∨ k = 7 ∨ k = 8 ∨ k = 9 ∨ k = 10 ∨ k = 11 ∨ k = 12 ∨ k = 13 ∨ k = 14 := by simp only at h; omega
    rcases h1 with rfl | rfl | rfl | rfl | rfl | rfl | rfl | rfl | rfl | rfl | rfl | rfl | rfl | rfl
    · exact act_ok_1 ..
    · exact act_ok_2 ..
    · exact act_ok_3 ..
    · exact act_ok_4 ..
    · exact act_ok_5 ..
    · exact act_ok_6 ..
    · exact act_ok_7 ..
    · exact act_ok_8 ..
    · exact act_ok_9 ..
    · exact act_ok_10 ..
    · exact act_ok_11 ..
    · exact act_ok_12 ..
    · exact act_ok_13 ..
    · exact act_ok_14 ..
  · exact ⟨false, act_no u c a h, fun k => nomatch k⟩
end Go.Proofs.YtmjbedjnojcmfaaGreatDoor.Ex

namespace Go.Proofs.YtmjbedjnojcmfaaGreatDoor.Ex
set_option maxRecDepth 100000
set_option linter.unusedVariables false
set_option linter.unusedSimpArgs false
theorem rangeO_ask {α Y : Type} {f : Nat → Unit → α → Option (Unit ⊕ Y)} {fin : Unit → Option Y} {p : Nat → α → Bool} {o : Y} : ∀ (l : List α) (i : Nat), (∀ j d, l[j]? = some d → f (i + j) () d = bif p (i + j) d then some (.inl ()) else some (.inr o)) →
    rangeO f fin i l () = bif allIx p i l then fin () else some o
  | [], i, _ => rfl
  | d :: r, i, h => by
    have k := rangeO_ask (fin := fin) r (i + 1) fun j d hd => by
      have := h (j + 1) d hd
      rwa [show i + (j + 1) = i + 1 + j by omega] at this
    have h0 := h 0 d rfl
    rw [Nat.add_zero] at h0
    simp only [rangeO, allIx, h0]
    cases p i d
    · rfl
    · exact k
theorem allIx_mem {α : Type} {p : α → Bool} {l : List α} (h : allIx (fun _ d => p d) 0 l = true) : ∀ d ∈ l, p d = true := by
  rw [allIx_all] at h
  exact List.all_eq_true.1 h
noncomputable def actB (u : U) (c : C) (a : A) : Bool := (g_ref8_act u c a).getD false
theorem actB_eq (u : U) (c : C) (a : A) : g_ref8_act u c a = some (actB u c a) := by
  obtain ⟨b, h, _⟩ := n_ref8_act u c a
  unfold actB
  rw [h]; rfl
theorem actB_ok {u : U} {c : C} {a : A} (h : actB u c a = true) : actOK u c a := by
  obtain ⟨b, h1, h2⟩ := n_ref8_act u c a
  rw [actB_eq] at h1
  cases h1
  exact h2 h
noncomputable def codeB (u : U) (c : C) : Bool := inB c.1 41 && !decide ((c.2.length : Int) < 1) && !decide ((c.2.length : Int) > 60) && (c.2[c.2.length - 1]?).elim false (fun a => a.1 == 14) && allIx (fun _ a => actB u c a) 0 c.2
theorem l6 (s5 : Int) (u : U) (c : C) (hl : c.2.length < 9223372036854775807) : L_ref8_Is_27_6_0 (s5, (c.2.length : Int), 0, u.1, u.2.1, u.2.2.1, u.2.2.2, c.1, c.2) =
    bif allIx (fun _ a => actB u c a) 0 c.2 then some (.inl (s5, u.1, u.2.1, u.2.2.1, u.2.2.2)) else some (.inr (false, s5, u.1, u.2.1, u.2.2.1, u.2.2.2)) := by
  rw [rg_ref8_Is_27_6_0 s5 u.1 u.2.1 u.2.2.1 u.2.2.2 c.1 c.2 () hl]
  unfold rv_ref8_Is_27_6_0
  rw [rangeO_ask (p := fun _ a => actB u c a) (o := .inr (false, s5, u.1, u.2.1, u.2.2.1, u.2.2.2)) c.2 0 fun j d hd => ?_]
  · rfl
  · unfold bd_ref8_Is_27_6_0 G_ref8_act
    simp only [actB_eq, optC_some]
    cases actB u c d <;> rfl
theorem l4 (u : U) (hl : ∀ c ∈ u.2.2.2, c.2.length < 9223372036854775807) (hn : u.2.2.2.length < 9223372036854775807) : L_ref8_Is_27_4_0 (0, u.1, u.2.1, u.2.2.1, u.2.2.2) = bif allIx (fun _ c => codeB u c) 0 u.2.2.2 then some (.inl ()) else some (.inr false) := by
  unfold L_ref8_Is_27_4_0
  refine (iterO_range0 u.2.2.2 (fun i (_ : Unit) => (((i : Int), u.1, u.2.1, u.2.2.1, u.2.2.2) : Int × List Int × List Int × Int × List C)) (fun i _ c => bif codeB u c then some (.inl ()) else some (.inr (.inr false))) (fun _ => some (.inl ())) ?_ ?_ () (by unfold FUEL; omega)).trans ?_
  · intro i s d hi hd
    have hm := hl d (List.mem_of_getElem? hd)
    have e1 : decide ((i : Int) < (u.2.2.2.length : Int)) = true := decide_eq_true (by omega)
    have e2 : decide (0 ≤ (i : Int)) = true := decide_eq_true (by omega)
    have e3 : Int.toNat (i : Int) = i := Int.toNat_natCast i
    have e4 := wrap_next hi (Nat.le_of_lt hn)
    show st_ref8_Is_27_4_0 (i : Int) u.1 u.2.1 u.2.2.1 u.2.2.2 = upd _ (bif codeB u d then some (.inl ()) else some (.inr (.inr false)))
    unfold st_ref8_Is_27_4_0 G_ref8_in
    simp only [e1, e2, e3, hd, cond_true, optC_some, n_ref8_in]
    have q := l6 (i : Int) u d hm
    unfold codeB
    cases inB d.1 41
    · rfl
    by_cases h1 : (d.2.length : Int) < 1
    · rw [decide_eq_true h1]; rfl
    by_cases h2 : (d.2.length : Int) > 60
    · rw [decide_eq_false h1, decide_eq_true h2]; rfl
    rw [decide_eq_false h1, decide_eq_false h2]
    have e5 : IntKind.i64.wrap ((d.2.length : Int) - 1) = ((d.2.length - 1 : Nat) : Int) := by rw [wrap_fits (by omega) (by omega)]; omega
    rw [e5]
    have e6 : decide (0 ≤ ((d.2.length - 1 : Nat) : Int)) = true := decide_eq_true (by omega)
    rw [e6, Int.toNat_natCast]
    obtain ⟨a, ha⟩ : ∃ a, d.2[d.2.length - 1]? = some a := ⟨d.2[d.2.length - 1]'(by omega), List.getElem?_eq_getElem _⟩
    simp only [cond_true, cond_false, Bool.not_true, Bool.not_false, Bool.true_and, ha, optC_some, Option.elim_some]
    cases h3 : a.1 == 14
    · rw [show (a.1 != 14) = true by simp [bne, h3]]; rfl
    · rw [show (a.1 != 14) = false by simp [bne, h3]]
      simp only [cond_false, Bool.true_and]
      have q2 : L_ref8_Is_27_6_0 ((i : Int), (d.2.length : Int), 0, u.1, u.2.1, u.2.2.1, u.2.2.2, d) = _ := q
      rw [q2]
      cases allIx (fun _ a => actB u d a) 0 d.2
      · rfl
      · simp only [cond_true, optC_some, Sum.elim_inl, e4]; rfl
  · intro s
    show st_ref8_Is_27_4_0 (u.2.2.2.length : Int) u.1 u.2.1 u.2.2.1 u.2.2.2 = _
    unfold st_ref8_Is_27_4_0
    rw [show decide ((u.2.2.2.length : Int) < (u.2.2.2.length : Int)) = false from decide_eq_false (by omega)]
    rfl
  · rw [rangeO_ask (p := fun _ c => codeB u c) (o := .inr false) u.2.2.2 0 fun j d hd => rfl]
theorem l0 (u : U) (hn : u.1.length < 9223372036854775807) : L_ref8_Is_27_0_0 (0, u) = bif u.1.all fitB then some (.inl u) else some (.inr (false, u)) := by
  have := rg_ref8_Is_27_0_0 u.2.1 u.2.2.1 u.2.2.2 u.1 () hn
  refine this.trans ?_
  unfold rv_ref8_Is_27_0_0
  rw [rangeO_ask (p := fun _ a => fitB a) (o := .inr (false, u.1, u.2.1, u.2.2.1, u.2.2.2)) u.1 0 fun j d hd => ?_, allIx_all]
  · rfl
  · unfold bd_ref8_Is_27_0_0 G_ref1_Fits
    simp only [n_ref1_Fits, optC_some]
    cases fitB d <;> rfl
theorem l2 (u : U) (hn : u.2.1.length < 9223372036854775807) : L_ref8_Is_27_2_0 (0, u) = bif u.2.1.all (fun n => !decide (n < 1) && !decide (n > 16)) then some (.inl u) else some (.inr (false, u)) := by
  have := rg_ref8_Is_27_2_0 u.1 u.2.2.1 u.2.2.2 u.2.1 () hn
  refine this.trans ?_
  unfold rv_ref8_Is_27_2_0
  rw [rangeO_ask (p := fun _ n => !decide (n < 1) && !decide (n > 16)) (o := .inr (false, u.1, u.2.1, u.2.2.1, u.2.2.2)) u.2.1 0 fun j d hd => ?_, allIx_all]
  · rfl
  · unfold bd_ref8_Is_27_2_0
    cases decide (d < 1)
    · cases decide (d > 16) <;> rfl
    · rfl
structure codeOK (u : U) (c : C) : Prop where
  v : 0 ≤ c.1 ∧ c.1 ≤ 40
  n : 1 ≤ c.2.length ∧ c.2.length ≤ 60
  e : ∃ a, c.2[c.2.length - 1]? = some a ∧ a.1 = 14
  a : ∀ a ∈ c.2, actOK u c a
structure unitOK (u : U) : Prop where
  g : u.1.length ≤ 6
  a : u.2.1.length ≤ 3
  m : 0 ≤ u.2.2.1 ∧ u.2.2.1 ≤ 6
  t : 1 ≤ u.2.2.2.length ∧ u.2.2.2.length ≤ 4
  gs : ∀ n ∈ u.1, fitB n = true
  ars : ∀ n ∈ u.2.1, 1 ≤ n ∧ n ≤ 16
  ts : ∀ c ∈ u.2.2.2, codeOK u c
theorem codeB_ok {u : U} {c : C} (h : codeB u c = true) : codeOK u c := by
  unfold codeB at h
  simp only [Bool.and_eq_true, Bool.not_eq_true', decide_eq_false_iff_not, inB, decide_eq_true_eq] at h
  obtain ⟨⟨⟨⟨h1, h2⟩, h3⟩, h4⟩, h5⟩ := h
  refine ⟨by omega, by omega, ?_, fun a ha => actB_ok (allIx_mem h5 a ha)⟩
  cases q : c.2[c.2.length - 1]? with
  | none => rw [q] at h4; cases h4
  | some a => rw [q] at h4; exact ⟨a, rfl, by simpa using h4⟩
def sizeU (u : U) : Prop := u.1.length < 9223372036854775807 ∧ u.2.1.length < 9223372036854775807 ∧ u.2.2.2.length < 9223372036854775807 ∧ ∀ c ∈ u.2.2.2, c.2.length < 9223372036854775807
theorem n_ref8_Is (u : U) (hs : sizeU u) : ∃ b, g_ref8_Is u = some b ∧ (b = true → unitOK u) := by
  obtain ⟨s1, s2, s3, s4⟩ := hs
  unfold g_ref8_Is G_ref8_in
  simp only [n_ref8_in, optC_some, l0 u s1]
  by_cases h1 : (u.1.length : Int) > 6
  · rw [decide_eq_true h1]; exact ⟨_, rfl, fun k => nomatch k⟩
  by_cases h2 : (u.2.1.length : Int) > 3
  · rw [decide_eq_false h1, decide_eq_true h2]; exact ⟨_, rfl, fun k => nomatch k⟩
  cases h3 : inB u.2.2.1 7
  · rw [decide_eq_false h1, decide_eq_false h2]; exact ⟨_, rfl, fun k => nomatch k⟩
  by_cases h4 : (u.2.2.2.length : Int) < 1
  · rw [decide_eq_false h1, decide_eq_false h2, decide_eq_true h4]; exact ⟨_, rfl, fun k => nomatch k⟩
  by_cases h5 : (u.2.2.2.length : Int) > 4
  · rw [decide_eq_false h1, decide_eq_false h2, decide_eq_false h4, decide_eq_true h5]; exact ⟨_, rfl, fun k => nomatch k⟩
  rw [decide_eq_false h1, decide_eq_false h2, decide_eq_false h4, decide_eq_false h5]
  simp only [cond_true, cond_false, Bool.not_true, Bool.not_false]
  cases h6 : u.1.all fitB
  · exact ⟨_, rfl, fun k => nomatch k⟩
  simp only [cond_true, optC_some, Sum.elim_inl, l2 u s2]
  cases h7 : u.2.1.all fun n => !decide (n < 1) && !decide (n > 16)
  · exact ⟨_, rfl, fun k => nomatch k⟩
  simp only [cond_true, optC_some, Sum.elim_inl]
  have q := l4 u s4 s3
  have q2 : L_ref8_Is_27_4_0 (0, u) = _ := q
  rw [q2]
  cases h8 : allIx (fun _ c => codeB u c) 0 u.2.2.2
  · exact ⟨_, rfl, fun k => nomatch k⟩
  refine ⟨_, rfl, fun _ => ?_⟩
  simp only [inB, Bool.and_eq_true, decide_eq_true_eq] at h3
  refine ⟨by omega, by omega, by omega, by omega, List.all_eq_true.1 h6, fun n hn => ?_, fun c hc => codeB_ok (allIx_mem h8 c hc)⟩
  have := List.all_eq_true.1 h7 n hn
  simp only [Bool.and_eq_true, Bool.not_eq_true', decide_eq_false_iff_not] at this
  omega
end Go.Proofs.YtmjbedjnojcmfaaGreatDoor.Ex

namespace Go.Proofs.YtmjbedjnojcmfaaGreatDoor.Ex
open Go.Proofs Go.Proofs.YtmjbedjnojcmfaaGreatDoor
set_option maxRecDepth 100000
set_option maxHeartbeats 2000000
set_option linter.unusedVariables false
set_option linter.unusedSimpArgs false
def ash_num_Fits : List Sh := [.dat (.sl (.int .i64))]
def kp_num_Fits_55_0 : Nat → List Nat := fun c => bif c.beq 0 then [5, 6, 7] else [2]
noncomputable def sp_num_Fits : List Con := []
def s_num_Fits_55_0_0 : StS := ⟨[(5, .sl (.int .i64)), (6, .int .i64), (7, .int .i64)], [], 0⟩
def x_num_Fits_55_0_0_0 : StS := ⟨[(2, .undef)], [], 0⟩
def x_num_Fits_55_0_0_1 : StS := ⟨[(2, .bool)], [], 0⟩
abbrev X_num_Fits_55_0_0 := ((List Int) × Int × Int)
def fl_num_Fits_55_0_0 (d : StD s_num_Fits_55_0_0) : X_num_Fits_55_0_0 := (d.1.1, d.1.2.1, d.1.2.2.1)
def un_num_Fits_55_0_0 (x : X_num_Fits_55_0_0) : StD s_num_Fits_55_0_0 := ((x.1, x.2.1, x.2.2, ()), ())
abbrev X_num_Fits_55_0_0_0 := Unit
def fl_num_Fits_55_0_0_0 (d : StD x_num_Fits_55_0_0_0) : X_num_Fits_55_0_0_0 := ()
def un_num_Fits_55_0_0_0 (x : X_num_Fits_55_0_0_0) : StD x_num_Fits_55_0_0_0 := (((), ()), ())
abbrev X_num_Fits_55_0_0_1 := Bool
def fl_num_Fits_55_0_0_1 (d : StD x_num_Fits_55_0_0_1) : X_num_Fits_55_0_0_1 := (d.1.1)
def un_num_Fits_55_0_0_1 (x : X_num_Fits_55_0_0_1) : StD x_num_Fits_55_0_0_1 := ((x, ()), ())
noncomputable def st_num_Fits_55_0_0 (s5 : (List Int)) (s6 : Int) (s7 : Int) : Option (((List Int) × Int × Int) ⊕ (Unit ⊕ Bool)) :=
  bif decide (s7 < s6) then
 bif decide (0 ≤ s7) then
 optC s5[s7.toNat]? none fun d5 ↦
 bif decide (d5 < -2147483648) then some (Sum.inr (Sum.inr false))
 else bif decide (d5 > 2147483647) then some (Sum.inr (Sum.inr false)) else some (Sum.inl (s5, s6, Go.IntKind.i64.wrap (s7 + 1)))
 else none
 else some (Sum.inr (Sum.inl PUnit.unit))
noncomputable def sx_num_Fits_55_0_0 (x : X_num_Fits_55_0_0) : Option (X_num_Fits_55_0_0 ⊕ (X_num_Fits_55_0_0_0 ⊕ X_num_Fits_55_0_0_1)) := st_num_Fits_55_0_0 x.1 x.2.1 x.2.2
theorem rn_num_Fits_55_0_0 (x : X_num_Fits_55_0_0) : rdX (cxU sp_num_Fits [] 40 1048576) keeps 8 ⟨55, 18, keeps 55, 0⟩ 0 (bodyX 55 0) 0 kp_num_Fits_55_0 (sT s_num_Fits_55_0_0 (un_num_Fits_55_0_0 x)) (sH s_num_Fits_55_0_0 (un_num_Fits_55_0_0 x)) (rdO (fun T h => (rdS s_num_Fits_55_0_0 T h).map fl_num_Fits_55_0_0) (getOr (getE 2 x_num_Fits_55_0_0_0 fl_num_Fits_55_0_0_0) (getE 1 x_num_Fits_55_0_0_1 fl_num_Fits_55_0_0_1))) = sx_num_Fits_55_0_0 x := by kernel_rfl
noncomputable def L_num_Fits_55_0_0 (x : X_num_Fits_55_0_0) : Option (X_num_Fits_55_0_0_0 ⊕ X_num_Fits_55_0_0_1) := iterO (fun x => st_num_Fits_55_0_0 x.1 x.2.1 x.2.2) FUEL x
noncomputable def q_num_Fits_55_0 : Nat → Tm → Prog (Nat × Tm) := (varP 0 (fun T h => (rdS s_num_Fits_55_0_0 T h).map fl_num_Fits_55_0_0) L_num_Fits_55_0_0 (fun y => .alt y (altE 2 x_num_Fits_55_0_0_0 un_num_Fits_55_0_0_0) (altE 1 x_num_Fits_55_0_0_1 un_num_Fits_55_0_0_1)) (fun _ _ => .fail))
noncomputable def lc_num_Fits_55_0 : Lpc := ⟨55, 0, 18, (fun base T => .norm base (kp_num_Fits_55_0 0) T (q_num_Fits_55_0 base)), by kernel_rfl, by kernel_rfl, (loopU sp_num_Fits [] 40 1048576 8 (keep := kp_num_Fits_55_0) (q := q_num_Fits_55_0) (by kernel_rfl) (varX_ok (s := s_num_Fits_55_0_0) (un := un_num_Fits_55_0_0) (by rfl) (fun _ => rfl) (getOr_ok (getE_ok (s := x_num_Fits_55_0_0_0) (un := un_num_Fits_55_0_0_0) (by rfl) (fun _ => rfl)) (getE_ok (s := x_num_Fits_55_0_0_1) (un := un_num_Fits_55_0_0_1) (by rfl) (fun _ => rfl))) (step := sx_num_Fits_55_0_0) rn_num_Fits_55_0_0 (fun _ _ e => ⟨_, e⟩) (altOr_ok (altE_ok 2 x_num_Fits_55_0_0_0 un_num_Fits_55_0_0_0) (altE_ok 1 x_num_Fits_55_0_0_1 un_num_Fits_55_0_0_1)) (VarOk.fail _ _)))⟩
noncomputable def g_num_Fits (a0 : (List Int)) : Option Bool :=
  optC (L_num_Fits_55_0_0 (a0, (↑a0.length : Int), 0)) none fun d3 ↦ Sum.elim (fun e4 ↦ some true) (fun e4 ↦ some e4) d3
theorem raw_num_Fits (a0 : (List Int)) : evGX (cxU sp_num_Fits [lc_num_Fits_55_0] 40 1048576) keeps 8 55 ash_num_Fits (.dat .bool) ((a0, ()) : ((List Int) × Unit)) = g_num_Fits a0 := by kernel_rfl
noncomputable def G_num_Fits (x : ((List Int) × Unit)) : Option Bool := g_num_Fits x.1
noncomputable def con_num_Fits : List AV → Prog AV := conP true ash_num_Fits (.dat .bool) G_num_Fits
theorem snd_num_Fits : SoundA Tryz.prog 55 con_num_Fits := conP_sound (calU sp_num_Fits [lc_num_Fits_55_0] 40 1048576 8 55) true (by rfl) (by rfl) (fun x r e => (evGX_eq _ _ _ _ _ _ _).trans ((raw_num_Fits x.1).trans e)) (.inl rfl)
end Go.Proofs.YtmjbedjnojcmfaaGreatDoor.Ex

namespace Go.Proofs.YtmjbedjnojcmfaaGreatDoor.Ex
set_option maxRecDepth 100000
set_option maxHeartbeats 2000000
set_option linter.unusedVariables false
set_option linter.unusedSimpArgs false
noncomputable def bd_num_Fits_55_0_0  (s5 : (List Int)) (i : Nat)  (d : Int) : Option (Unit ⊕ (X_num_Fits_55_0_0_0 ⊕ X_num_Fits_55_0_0_1)) :=
  bif decide (d < -2147483648) then
   some (Sum.inr (Sum.inr false))
 else bif decide (d > 2147483647) then
   some (Sum.inr (Sum.inr false))
 else some (Sum.inl ())
noncomputable def fn_num_Fits_55_0_0  (s5 : (List Int))  : Option (X_num_Fits_55_0_0_0 ⊕ X_num_Fits_55_0_0_1) :=
  some (Sum.inl PUnit.unit)
noncomputable abbrev rx_num_Fits_55_0_0  (s5 : (List Int)) (i : Nat) (s : Unit) : X_num_Fits_55_0_0 := (s5, (s5.length : Int), (i : Int))
noncomputable def rv_num_Fits_55_0_0  (s5 : (List Int)) (s : Unit) : Option (X_num_Fits_55_0_0_0 ⊕ X_num_Fits_55_0_0_1) := rangeO (fun i s d => bd_num_Fits_55_0_0  s5 i  d) (fun s => fn_num_Fits_55_0_0  s5 ) 0 s5 s
theorem rg_num_Fits_55_0_0  (s5 : (List Int)) (s : Unit) (hl : s5.length < 9223372036854775807) : L_num_Fits_55_0_0 (s5, (s5.length : Int), 0) = rv_num_Fits_55_0_0  s5 s := by
  unfold L_num_Fits_55_0_0 rv_num_Fits_55_0_0
  refine iterO_range0 s5 (rx_num_Fits_55_0_0  s5) _ _ ?_ ?_ s (by unfold FUEL; omega)
  · intro i s d hi hd
    have e1 : decide ((i : Int) < (s5.length : Int)) = true := decide_eq_true (by omega)
    have e2 : decide (0 ≤ (i : Int)) = true := decide_eq_true (by omega)
    have e3 : Int.toNat (i : Int) = i := Int.toNat_natCast i
    have e4 := wrap_next hi (Nat.le_of_lt hl)
    show st_num_Fits_55_0_0 (s5) ((s5.length : Int)) ((i : Int)) = upd _ (bd_num_Fits_55_0_0  s5 i  d)
    unfold st_num_Fits_55_0_0 bd_num_Fits_55_0_0
    simp only [e1, e2, e3, e4, hd, cond_true, cond_false, optC_some, upd_cond, upd_optC, upd_elim, upd_inl, upd_inr, upd_none]
  · intro s
    have e1 : decide ((s5.length : Int) < (s5.length : Int)) = false := decide_eq_false (by omega)
    show st_num_Fits_55_0_0 (s5) ((s5.length : Int)) ((s5.length : Int)) = _
    unfold st_num_Fits_55_0_0 fn_num_Fits_55_0_0
    rw [e1]
    rfl
end Go.Proofs.YtmjbedjnojcmfaaGreatDoor.Ex

namespace Go.Proofs.YtmjbedjnojcmfaaGreatDoor.Ex
open Go.Proofs Go.Proofs.YtmjbedjnojcmfaaGreatDoor
set_option maxRecDepth 100000
set_option maxHeartbeats 2000000
set_option linter.unusedVariables false
set_option linter.unusedSimpArgs false
def ash_cfg_isIn : List Sh := [.dat (.int .i64), .dat (.int .i64), .dat (.int .i64)]
noncomputable def sp_cfg_isIn : List Con := []
noncomputable def g_cfg_isIn (a0 : Int) (a1 : Int) (a2 : Int) : Option Bool :=
  bif decide (a0 ≥ a1) then some (decide (a0 ≤ a2)) else some false
theorem raw_cfg_isIn (a0 : Int) (a1 : Int) (a2 : Int) : evGX (cxU sp_cfg_isIn [] 40 1048576) keeps 8 56 ash_cfg_isIn (.dat .bool) ((a0, a1, a2, ()) : (Int × (Int × (Int × Unit)))) = g_cfg_isIn a0 a1 a2 := by kernel_rfl
noncomputable def G_cfg_isIn (x : (Int × (Int × (Int × Unit)))) : Option Bool := g_cfg_isIn x.1 x.2.1 x.2.2.1
noncomputable def con_cfg_isIn : List AV → Prog AV := conP true ash_cfg_isIn (.dat .bool) G_cfg_isIn
theorem snd_cfg_isIn : SoundA Tryz.prog 56 con_cfg_isIn := conP_sound (calU sp_cfg_isIn [] 40 1048576 8 56) true (by rfl) (by rfl) (fun x r e => (evGX_eq _ _ _ _ _ _ _).trans ((raw_cfg_isIn x.1 x.2.1 x.2.2.1).trans e)) (.inl rfl)
end Go.Proofs.YtmjbedjnojcmfaaGreatDoor.Ex

namespace Go.Proofs.YtmjbedjnojcmfaaGreatDoor.Ex
open Go.Proofs Go.Proofs.YtmjbedjnojcmfaaGreatDoor
set_option maxRecDepth 100000
set_option maxHeartbeats 2000000
set_option linter.unusedVariables false
set_option linter.unusedSimpArgs false
def ash_cfg_Heads : List Sh := [.dat tC]
def kp_cfg_Heads_31_0 : Nat → List Nat := fun c => bif c.beq 0 then [3, 7, 8, 9] else [3]
noncomputable def sp_cfg_Heads : List Con := [⟨56, con_cfg_isIn, snd_cfg_isIn⟩, ⟨71, con_slices_Sort_int, snd_slices_Sort_int⟩, ⟨72, con_slices_Compact_int, snd_slices_Compact_int⟩]
def s_cfg_Heads_31_0_0 : StS := ⟨[(3, .row 0), (7, .sl tA), (8, .int .i64), (9, .int .i64)], [(0, .row (.int .i64))], 1⟩
def x_cfg_Heads_31_0_0_0 : StS := ⟨[(3, .row 0)], [(0, .row (.int .i64))], 1⟩
abbrev X_cfg_Heads_31_0_0 := ((List A) × Int × Int × (List Int))
def fl_cfg_Heads_31_0_0 (d : StD s_cfg_Heads_31_0_0) : X_cfg_Heads_31_0_0 := (d.1.2.1, d.1.2.2.1, d.1.2.2.2.1, d.2.1)
def un_cfg_Heads_31_0_0 (x : X_cfg_Heads_31_0_0) : StD s_cfg_Heads_31_0_0 := (((), x.1, x.2.1, x.2.2.1, ()), (x.2.2.2, ()))
abbrev X_cfg_Heads_31_0_0_0 := (List Int)
def fl_cfg_Heads_31_0_0_0 (d : StD x_cfg_Heads_31_0_0_0) : X_cfg_Heads_31_0_0_0 := (d.2.1)
def un_cfg_Heads_31_0_0_0 (x : X_cfg_Heads_31_0_0_0) : StD x_cfg_Heads_31_0_0_0 := (((), ()), (x, ()))
noncomputable def st_cfg_Heads_31_0_0 (s7 : (List A)) (s8 : Int) (s9 : Int) (b0 : (List Int)) : Option (((List A) × Int × Int × (List Int)) ⊕ (List Int)) :=
  bif decide (s9 < s8) then
 bif decide (0 ≤ s9) then
 optC s7[s9.toNat]? none fun d6 ↦
 bif d6.1 == 14 then some (Sum.inl (s7, s8, Go.IntKind.i64.wrap (s9 + 1), b0))
 else
 bif d6.1 == 13 then some (Sum.inl (s7, s8, Go.IntKind.i64.wrap (s9 + 1), b0))
 else
 optC (G_cfg_isIn (d6.2.2.2.2.2.2.2.1, 0, s9, ())) none fun d7 ↦
 bif d7 then
 bif decide ((b0.length + [d6.2.2.2.2.2.2.2.1].length + 1) * 8 ≤ lim) then
 bif d6.1 == 11 then
 optC (G_cfg_isIn (d6.2.2.2.2.2.2.2.2, 0, s9, ())) none fun d8 ↦
 bif d8 then
 bif decide (((b0 ++ [d6.2.2.2.2.2.2.2.1]).length + [d6.2.2.2.2.2.2.2.2].length + 1) * 8 ≤ lim) then
 some (Sum.inl (s7, s8, Go.IntKind.i64.wrap (s9 + 1), b0 ++ [d6.2.2.2.2.2.2.2.1] ++ [d6.2.2.2.2.2.2.2.2]))
 else none
 else some (Sum.inl (s7, s8, Go.IntKind.i64.wrap (s9 + 1), b0 ++ [d6.2.2.2.2.2.2.2.1]))
 else some (Sum.inl (s7, s8, Go.IntKind.i64.wrap (s9 + 1), b0 ++ [d6.2.2.2.2.2.2.2.1]))
 else none
 else
 bif d6.1 == 11 then
 optC (G_cfg_isIn (d6.2.2.2.2.2.2.2.2, 0, s9, ())) none fun d8 ↦
 bif d8 then
 bif decide ((b0.length + [d6.2.2.2.2.2.2.2.2].length + 1) * 8 ≤ lim) then
 some (Sum.inl (s7, s8, Go.IntKind.i64.wrap (s9 + 1), b0 ++ [d6.2.2.2.2.2.2.2.2]))
 else none
 else some (Sum.inl (s7, s8, Go.IntKind.i64.wrap (s9 + 1), b0))
 else some (Sum.inl (s7, s8, Go.IntKind.i64.wrap (s9 + 1), b0))
 else none
 else some (Sum.inr b0)
noncomputable def sx_cfg_Heads_31_0_0 (x : X_cfg_Heads_31_0_0) : Option (X_cfg_Heads_31_0_0 ⊕ X_cfg_Heads_31_0_0_0) := st_cfg_Heads_31_0_0 x.1 x.2.1 x.2.2.1 x.2.2.2
theorem rn_cfg_Heads_31_0_0 (x : X_cfg_Heads_31_0_0) : rdX (cxU sp_cfg_Heads [] 40 1048576) keeps 8 ⟨31, 50, keeps 31, 0⟩ 0 (bodyX 31 0) 0 kp_cfg_Heads_31_0 (sT s_cfg_Heads_31_0_0 (un_cfg_Heads_31_0_0 x)) (sH s_cfg_Heads_31_0_0 (un_cfg_Heads_31_0_0 x)) (rdO (fun T h => (rdS s_cfg_Heads_31_0_0 T h).map fl_cfg_Heads_31_0_0) (getE 2 x_cfg_Heads_31_0_0_0 fl_cfg_Heads_31_0_0_0)) = sx_cfg_Heads_31_0_0 x := by kernel_rfl
noncomputable def L_cfg_Heads_31_0_0 (x : X_cfg_Heads_31_0_0) : Option X_cfg_Heads_31_0_0_0 := iterO (fun x => st_cfg_Heads_31_0_0 x.1 x.2.1 x.2.2.1 x.2.2.2) FUEL x
noncomputable def q_cfg_Heads_31_0 : Nat → Tm → Prog (Nat × Tm) := (varP 0 (fun T h => (rdS s_cfg_Heads_31_0_0 T h).map fl_cfg_Heads_31_0_0) L_cfg_Heads_31_0_0 (altE 2 x_cfg_Heads_31_0_0_0 un_cfg_Heads_31_0_0_0) (fun _ _ => .fail))
noncomputable def lc_cfg_Heads_31_0 : Lpc := ⟨31, 0, 50, (ownP [] [(3, (.int .i64)), (3, (.int .i64)), (3, (.int .i64)), (3, (.int .i64))] (kp_cfg_Heads_31_0 0) (fun base T => .norm base (kp_cfg_Heads_31_0 0) T (q_cfg_Heads_31_0 base))), by kernel_rfl, by kernel_rfl, (own_sound (loopU sp_cfg_Heads [] 40 1048576 8 (keep := kp_cfg_Heads_31_0) (q := q_cfg_Heads_31_0) (by kernel_rfl) (varX_ok (s := s_cfg_Heads_31_0_0) (un := un_cfg_Heads_31_0_0) (by rfl) (fun _ => rfl) (getE_ok (s := x_cfg_Heads_31_0_0_0) (un := un_cfg_Heads_31_0_0_0) (by rfl) (fun _ => rfl)) (step := sx_cfg_Heads_31_0_0) rn_cfg_Heads_31_0_0 (fun _ _ e => ⟨_, e⟩) (altE_ok 2 x_cfg_Heads_31_0_0_0 un_cfg_Heads_31_0_0_0) (VarOk.fail _ _))))⟩
noncomputable def g_cfg_Heads (a0 : C) : Option (List Int) :=
  optC (L_cfg_Heads_31_0_0 (a0.2, (↑(List.length a0.2) : Int), 0, [])) none fun d3 ↦
 bif decide (d3.length < 4611686018427387904) then
 bif decide ((srtI d3).length < 4611686018427387904) then
 some (List.drop 0 (List.take (Go.Lib.compact (List.take (srtI d3).length (srtI d3))).length (cutI (srtI d3) (srtI d3).length)))
 else none
 else none
theorem raw_cfg_Heads (a0 : C) : evGX (cxU sp_cfg_Heads [lc_cfg_Heads_31_0] 40 1048576) keeps 8 31 ash_cfg_Heads (.dat (.sl (.int .i64))) ((a0, ()) : (C × Unit)) = g_cfg_Heads a0 := by kernel_rfl
noncomputable def G_cfg_Heads (x : (C × Unit)) : Option (List Int) := g_cfg_Heads x.1
noncomputable def con_cfg_Heads : List AV → Prog AV := conP true ash_cfg_Heads (.dat (.sl (.int .i64))) G_cfg_Heads
theorem snd_cfg_Heads : SoundA Tryz.prog 31 con_cfg_Heads := conP_sound (calU sp_cfg_Heads [lc_cfg_Heads_31_0] 40 1048576 8 31) true (by rfl) (by rfl) (fun x r e => (evGX_eq _ _ _ _ _ _ _).trans ((raw_cfg_Heads x.1).trans e)) (.inl rfl)
end Go.Proofs.YtmjbedjnojcmfaaGreatDoor.Ex

namespace Go.Proofs.YtmjbedjnojcmfaaGreatDoor.Ex
set_option maxRecDepth 100000
set_option maxHeartbeats 2000000
set_option linter.unusedVariables false
set_option linter.unusedSimpArgs false
noncomputable def bd_cfg_Heads_31_0_0  (s7 : (List A)) (i : Nat) (b0 : (List Int)) (d : A) : Option ((List Int) ⊕ X_cfg_Heads_31_0_0_0) :=
  bif d.1 == 14 then
   some (Sum.inl (b0))
 else bif d.1 == 13 then
   some (Sum.inl (b0))
 else optC (G_cfg_isIn (d.2.2.2.2.2.2.2.1, 0, (i : Int), ())) (none) fun d7 ↦
   bif d7 then
   bif decide ((b0.length + [d.2.2.2.2.2.2.2.1].length + 1) * 8 ≤ lim) then
   bif d.1 == 11 then
   optC (G_cfg_isIn (d.2.2.2.2.2.2.2.2, 0, (i : Int), ())) (none) fun d8 ↦
   bif d8 then
   bif decide (((b0 ++ [d.2.2.2.2.2.2.2.1]).length + [d.2.2.2.2.2.2.2.2].length + 1) * 8 ≤ lim) then
   some (Sum.inl (b0 ++ [d.2.2.2.2.2.2.2.1] ++ [d.2.2.2.2.2.2.2.2]))
 else none
 else some (Sum.inl (b0 ++ [d.2.2.2.2.2.2.2.1]))
 else some (Sum.inl (b0 ++ [d.2.2.2.2.2.2.2.1]))
 else none
 else bif d.1 == 11 then
   optC (G_cfg_isIn (d.2.2.2.2.2.2.2.2, 0, (i : Int), ())) (none) fun d8 ↦
   bif d8 then
   bif decide ((b0.length + [d.2.2.2.2.2.2.2.2].length + 1) * 8 ≤ lim) then
   some (Sum.inl (b0 ++ [d.2.2.2.2.2.2.2.2]))
 else none
 else some (Sum.inl (b0))
 else some (Sum.inl (b0))
noncomputable def fn_cfg_Heads_31_0_0  (s7 : (List A)) (b0 : (List Int)) : Option X_cfg_Heads_31_0_0_0 :=
  some b0
noncomputable abbrev rx_cfg_Heads_31_0_0  (s7 : (List A)) (i : Nat) (s : (List Int)) : X_cfg_Heads_31_0_0 := (s7, (s7.length : Int), (i : Int), s)
noncomputable def rv_cfg_Heads_31_0_0  (s7 : (List A)) (s : (List Int)) : Option X_cfg_Heads_31_0_0_0 := rangeO (fun i s d => bd_cfg_Heads_31_0_0  s7 i s d) (fun s => fn_cfg_Heads_31_0_0  s7 s) 0 s7 s
theorem rg_cfg_Heads_31_0_0  (s7 : (List A)) (s : (List Int)) (hl : s7.length < 9223372036854775807) : L_cfg_Heads_31_0_0 (s7, (s7.length : Int), 0, s) = rv_cfg_Heads_31_0_0  s7 s := by
  unfold L_cfg_Heads_31_0_0 rv_cfg_Heads_31_0_0
  refine iterO_range0 s7 (rx_cfg_Heads_31_0_0  s7) _ _ ?_ ?_ s (by unfold FUEL; omega)
  · intro i s d hi hd
    have e1 : decide ((i : Int) < (s7.length : Int)) = true := decide_eq_true (by omega)
    have e2 : decide (0 ≤ (i : Int)) = true := decide_eq_true (by omega)
    have e3 : Int.toNat (i : Int) = i := Int.toNat_natCast i
    have e4 := wrap_next hi (Nat.le_of_lt hl)
    show st_cfg_Heads_31_0_0 (s7) ((s7.length : Int)) ((i : Int)) (s) = upd _ (bd_cfg_Heads_31_0_0  s7 i s d)
    unfold st_cfg_Heads_31_0_0 bd_cfg_Heads_31_0_0
    simp only [e1, e2, e3, e4, hd, cond_true, cond_false, optC_some, upd_cond, upd_optC, upd_elim, upd_inl, upd_inr, upd_none]
  · intro s
    have e1 : decide ((s7.length : Int) < (s7.length : Int)) = false := decide_eq_false (by omega)
    show st_cfg_Heads_31_0_0 (s7) ((s7.length : Int)) ((s7.length : Int)) (s) = _
    unfold st_cfg_Heads_31_0_0 fn_cfg_Heads_31_0_0
    rw [e1]
    rfl
end Go.Proofs.YtmjbedjnojcmfaaGreatDoor.Ex

namespace Go.Proofs.YtmjbedjnojcmfaaGreatDoor.Ex
open Go.Proofs Go.Proofs.YtmjbedjnojcmfaaGreatDoor
set_option maxRecDepth 100000
set_option maxHeartbeats 2000000
set_option linter.unusedVariables false
set_option linter.unusedSimpArgs false
def ash_ref8_Heads : List Sh := [.dat tC]
def kp_ref8_Heads_32_2 : Nat → List Nat := fun c => bif c.beq 0 then [1, 3, 4, 5, 6] else [1, 3, 4, 5]
def kp_ref8_Heads_32_0 : Nat → List Nat := fun c => bif c.beq 0 then [1, 3, 4] else [3]
noncomputable def sp_ref8_Heads : List Con := []
def s_ref8_Heads_32_2_1 : StS := ⟨[(1, .ptr 0 0), (3, .row 1), (4, .int .i64), (5, .bool), (6, .int .i64)], [(0, .box [.int .i64, .sl tA]), (1, .row (.int .i64))], 2⟩
def x_ref8_Heads_32_2_1_0 : StS := ⟨[(1, .ptr 0 0), (3, .row 1), (4, .int .i64), (5, .bool)], [(0, .box [.int .i64, .sl tA]), (1, .row (.int .i64))], 2⟩
abbrev X_ref8_Heads_32_2_1 := (Int × Bool × Int × Int × (List A) × (List Int))
def fl_ref8_Heads_32_2_1 (d : StD s_ref8_Heads_32_2_1) : X_ref8_Heads_32_2_1 := (d.1.2.2.1, d.1.2.2.2.1, d.1.2.2.2.2.1, d.2.1.1, d.2.1.2.1, d.2.2.1)
def un_ref8_Heads_32_2_1 (x : X_ref8_Heads_32_2_1) : StD s_ref8_Heads_32_2_1 := (((), (), x.1, x.2.1, x.2.2.1, ()), ((x.2.2.2.1, x.2.2.2.2.1, ()), x.2.2.2.2.2, ()))
abbrev X_ref8_Heads_32_2_1_0 := (Int × Bool × Int × (List A) × (List Int))
def fl_ref8_Heads_32_2_1_0 (d : StD x_ref8_Heads_32_2_1_0) : X_ref8_Heads_32_2_1_0 := (d.1.2.2.1, d.1.2.2.2.1, d.2.1.1, d.2.1.2.1, d.2.2.1)
def un_ref8_Heads_32_2_1_0 (x : X_ref8_Heads_32_2_1_0) : StD x_ref8_Heads_32_2_1_0 := (((), (), x.1, x.2.1, ()), ((x.2.2.1, x.2.2.2.1, ()), x.2.2.2.2, ()))
noncomputable def st_ref8_Heads_32_2_1 (s4 : Int) (s5 : Bool) (s6 : Int) (b0 : Int) (b0_1 : (List A)) (b1 : (List Int)) : Option ((Int × Bool × Int × Int × (List A) × (List Int)) ⊕ (Int × Bool × Int × (List A) × (List Int))) :=
  bif decide (s6 < (↑b0_1.length : Int)) then
 bif decide (0 ≤ s6) then
 optC b0_1[s6.toNat]? none fun d10 ↦
 bif d10.1 != 14 then
 bif d10.1 != 13 then
 bif s5 then some (Sum.inl (s4, true, Go.IntKind.i64.wrap (s6 + 1), b0, b0_1, b1))
 else
 bif d10.2.2.2.2.2.2.2.1 == s4 then some (Sum.inl (s4, true, Go.IntKind.i64.wrap (s6 + 1), b0, b0_1, b1))
 else
 bif d10.1 == 11 then some (Sum.inl (s4, d10.2.2.2.2.2.2.2.2 == s4, Go.IntKind.i64.wrap (s6 + 1), b0, b0_1, b1))
 else some (Sum.inl (s4, false, Go.IntKind.i64.wrap (s6 + 1), b0, b0_1, b1))
 else some (Sum.inl (s4, s5, Go.IntKind.i64.wrap (s6 + 1), b0, b0_1, b1))
 else some (Sum.inl (s4, s5, Go.IntKind.i64.wrap (s6 + 1), b0, b0_1, b1))
 else none
 else some (Sum.inr (s4, s5, b0, b0_1, b1))
noncomputable def sx_ref8_Heads_32_2_1 (x : X_ref8_Heads_32_2_1) : Option (X_ref8_Heads_32_2_1 ⊕ X_ref8_Heads_32_2_1_0) := st_ref8_Heads_32_2_1 x.1 x.2.1 x.2.2.1 x.2.2.2.1 x.2.2.2.2.1 x.2.2.2.2.2
theorem rn_ref8_Heads_32_2_1 (x : X_ref8_Heads_32_2_1) : rdX (cxU sp_ref8_Heads [] 40 1048576) keeps 8 ⟨32, 60, keeps 32, 0⟩ 2 (bodyX 32 2) 0 kp_ref8_Heads_32_2 (sT s_ref8_Heads_32_2_1 (un_ref8_Heads_32_2_1 x)) (sH s_ref8_Heads_32_2_1 (un_ref8_Heads_32_2_1 x)) (rdO (fun T h => (rdS s_ref8_Heads_32_2_1 T h).map fl_ref8_Heads_32_2_1) (getE 4 x_ref8_Heads_32_2_1_0 fl_ref8_Heads_32_2_1_0)) = sx_ref8_Heads_32_2_1 x := by kernel_rfl
noncomputable def L_ref8_Heads_32_2_1 (x : X_ref8_Heads_32_2_1) : Option X_ref8_Heads_32_2_1_0 := iterO (fun x => st_ref8_Heads_32_2_1 x.1 x.2.1 x.2.2.1 x.2.2.2.1 x.2.2.2.2.1 x.2.2.2.2.2) FUEL x
def s_ref8_Heads_32_2_0 : StS := ⟨[(1, .ptr 0 0), (3, .nil), (4, .int .i64), (5, .bool), (6, .int .i64)], [(0, .box [.int .i64, .sl tA])], 1⟩
def x_ref8_Heads_32_2_0_0 : StS := ⟨[(1, .ptr 0 0), (3, .nil), (4, .int .i64), (5, .bool)], [(0, .box [.int .i64, .sl tA])], 1⟩
abbrev X_ref8_Heads_32_2_0 := (Int × Bool × Int × Int × (List A))
def fl_ref8_Heads_32_2_0 (d : StD s_ref8_Heads_32_2_0) : X_ref8_Heads_32_2_0 := (d.1.2.2.1, d.1.2.2.2.1, d.1.2.2.2.2.1, d.2.1.1, d.2.1.2.1)
def un_ref8_Heads_32_2_0 (x : X_ref8_Heads_32_2_0) : StD s_ref8_Heads_32_2_0 := (((), (), x.1, x.2.1, x.2.2.1, ()), ((x.2.2.2.1, x.2.2.2.2, ()), ()))
abbrev X_ref8_Heads_32_2_0_0 := (Int × Bool × Int × (List A))
def fl_ref8_Heads_32_2_0_0 (d : StD x_ref8_Heads_32_2_0_0) : X_ref8_Heads_32_2_0_0 := (d.1.2.2.1, d.1.2.2.2.1, d.2.1.1, d.2.1.2.1)
def un_ref8_Heads_32_2_0_0 (x : X_ref8_Heads_32_2_0_0) : StD x_ref8_Heads_32_2_0_0 := (((), (), x.1, x.2.1, ()), ((x.2.2.1, x.2.2.2, ()), ()))
noncomputable def st_ref8_Heads_32_2_0 (s4 : Int) (s5 : Bool) (s6 : Int) (b0 : Int) (b0_1 : (List A)) : Option ((Int × Bool × Int × Int × (List A)) ⊕ (Int × Bool × Int × (List A))) :=
  bif decide (s6 < (↑b0_1.length : Int)) then
 bif decide (0 ≤ s6) then
 optC b0_1[s6.toNat]? none fun d9 ↦
 bif d9.1 != 14 then
 bif d9.1 != 13 then
 bif s5 then some (Sum.inl (s4, true, Go.IntKind.i64.wrap (s6 + 1), b0, b0_1))
 else
 bif d9.2.2.2.2.2.2.2.1 == s4 then some (Sum.inl (s4, true, Go.IntKind.i64.wrap (s6 + 1), b0, b0_1))
 else
 bif d9.1 == 11 then some (Sum.inl (s4, d9.2.2.2.2.2.2.2.2 == s4, Go.IntKind.i64.wrap (s6 + 1), b0, b0_1))
 else some (Sum.inl (s4, false, Go.IntKind.i64.wrap (s6 + 1), b0, b0_1))
 else some (Sum.inl (s4, s5, Go.IntKind.i64.wrap (s6 + 1), b0, b0_1))
 else some (Sum.inl (s4, s5, Go.IntKind.i64.wrap (s6 + 1), b0, b0_1))
 else none
 else some (Sum.inr (s4, s5, b0, b0_1))
noncomputable def sx_ref8_Heads_32_2_0 (x : X_ref8_Heads_32_2_0) : Option (X_ref8_Heads_32_2_0 ⊕ X_ref8_Heads_32_2_0_0) := st_ref8_Heads_32_2_0 x.1 x.2.1 x.2.2.1 x.2.2.2.1 x.2.2.2.2
theorem rn_ref8_Heads_32_2_0 (x : X_ref8_Heads_32_2_0) : rdX (cxU sp_ref8_Heads [] 40 1048576) keeps 8 ⟨32, 60, keeps 32, 0⟩ 2 (bodyX 32 2) 0 kp_ref8_Heads_32_2 (sT s_ref8_Heads_32_2_0 (un_ref8_Heads_32_2_0 x)) (sH s_ref8_Heads_32_2_0 (un_ref8_Heads_32_2_0 x)) (rdO (fun T h => (rdS s_ref8_Heads_32_2_0 T h).map fl_ref8_Heads_32_2_0) (getE 4 x_ref8_Heads_32_2_0_0 fl_ref8_Heads_32_2_0_0)) = sx_ref8_Heads_32_2_0 x := by kernel_rfl
noncomputable def L_ref8_Heads_32_2_0 (x : X_ref8_Heads_32_2_0) : Option X_ref8_Heads_32_2_0_0 := iterO (fun x => st_ref8_Heads_32_2_0 x.1 x.2.1 x.2.2.1 x.2.2.2.1 x.2.2.2.2) FUEL x
noncomputable def q_ref8_Heads_32_2 : Nat → Tm → Prog (Nat × Tm) := (varP 0 (fun T h => (rdS s_ref8_Heads_32_2_0 T h).map fl_ref8_Heads_32_2_0) L_ref8_Heads_32_2_0 (altE 4 x_ref8_Heads_32_2_0_0 un_ref8_Heads_32_2_0_0) (varP 0 (fun T h => (rdS s_ref8_Heads_32_2_1 T h).map fl_ref8_Heads_32_2_1) L_ref8_Heads_32_2_1 (altE 4 x_ref8_Heads_32_2_1_0 un_ref8_Heads_32_2_1_0) (fun _ _ => .fail)))
noncomputable def lc_ref8_Heads_32_2 : Lpc := ⟨32, 2, 60, (fun base T => .norm base (kp_ref8_Heads_32_2 0) T (q_ref8_Heads_32_2 base)), by kernel_rfl, by kernel_rfl, (loopU sp_ref8_Heads [] 40 1048576 8 (keep := kp_ref8_Heads_32_2) (q := q_ref8_Heads_32_2) (by kernel_rfl) (varX_ok (s := s_ref8_Heads_32_2_0) (un := un_ref8_Heads_32_2_0) (by rfl) (fun _ => rfl) (getE_ok (s := x_ref8_Heads_32_2_0_0) (un := un_ref8_Heads_32_2_0_0) (by rfl) (fun _ => rfl)) (step := sx_ref8_Heads_32_2_0) rn_ref8_Heads_32_2_0 (fun _ _ e => ⟨_, e⟩) (altE_ok 4 x_ref8_Heads_32_2_0_0 un_ref8_Heads_32_2_0_0) (varX_ok (s := s_ref8_Heads_32_2_1) (un := un_ref8_Heads_32_2_1) (by rfl) (fun _ => rfl) (getE_ok (s := x_ref8_Heads_32_2_1_0) (un := un_ref8_Heads_32_2_1_0) (by rfl) (fun _ => rfl)) (step := sx_ref8_Heads_32_2_1) rn_ref8_Heads_32_2_1 (fun _ _ e => ⟨_, e⟩) (altE_ok 4 x_ref8_Heads_32_2_1_0 un_ref8_Heads_32_2_1_0) (VarOk.fail _ _))))⟩
noncomputable abbrev cx_ref8_Heads_32_0 := cxU sp_ref8_Heads [lc_ref8_Heads_32_2] 40 1048576
def s_ref8_Heads_32_0_0 : StS := ⟨[(1, .ptr 0 0), (3, .row 1), (4, .int .i64)], [(0, .box [.int .i64, .sl tA]), (1, .row (.int .i64))], 2⟩
def x_ref8_Heads_32_0_0_0 : StS := ⟨[(3, .row 0)], [(0, .row (.int .i64))], 1⟩
abbrev X_ref8_Heads_32_0_0 := (Int × Int × (List A) × (List Int))
def fl_ref8_Heads_32_0_0 (d : StD s_ref8_Heads_32_0_0) : X_ref8_Heads_32_0_0 := (d.1.2.2.1, d.2.1.1, d.2.1.2.1, d.2.2.1)
def un_ref8_Heads_32_0_0 (x : X_ref8_Heads_32_0_0) : StD s_ref8_Heads_32_0_0 := (((), (), x.1, ()), ((x.2.1, x.2.2.1, ()), x.2.2.2, ()))
abbrev X_ref8_Heads_32_0_0_0 := (List Int)
def fl_ref8_Heads_32_0_0_0 (d : StD x_ref8_Heads_32_0_0_0) : X_ref8_Heads_32_0_0_0 := (d.2.1)
def un_ref8_Heads_32_0_0_0 (x : X_ref8_Heads_32_0_0_0) : StD x_ref8_Heads_32_0_0_0 := (((), ()), (x, ()))
noncomputable def st_ref8_Heads_32_0_0 (s4 : Int) (b0 : Int) (b0_1 : (List A)) (b1 : (List Int)) : Option ((Int × Int × (List A) × (List Int)) ⊕ (List Int)) :=
  bif decide (s4 < (↑b0_1.length : Int)) then
 optC (L_ref8_Heads_32_2_1 (s4, false, s4, b0, b0_1, b1)) none fun d8 ↦
 bif d8.2.1 then
 bif decide ((d8.2.2.2.2.length + [d8.1].length + 1) * 8 ≤ lim) then
 some (Sum.inl (Go.IntKind.i64.wrap (d8.1 + 1), d8.2.2.1, d8.2.2.2.1, d8.2.2.2.2 ++ [d8.1]))
 else none
 else some (Sum.inl (Go.IntKind.i64.wrap (d8.1 + 1), d8.2.2.1, d8.2.2.2.1, d8.2.2.2.2))
 else some (Sum.inr b1)
noncomputable def sx_ref8_Heads_32_0_0 (x : X_ref8_Heads_32_0_0) : Option (X_ref8_Heads_32_0_0 ⊕ X_ref8_Heads_32_0_0_0) := st_ref8_Heads_32_0_0 x.1 x.2.1 x.2.2.1 x.2.2.2
theorem rn_ref8_Heads_32_0_0 (x : X_ref8_Heads_32_0_0) : rdX cx_ref8_Heads_32_0 keeps 8 ⟨32, 60, keeps 32, 0⟩ 0 (bodyX 32 0) 0 kp_ref8_Heads_32_0 (sT s_ref8_Heads_32_0_0 (un_ref8_Heads_32_0_0 x)) (sH s_ref8_Heads_32_0_0 (un_ref8_Heads_32_0_0 x)) (rdO (fun T h => (rdS s_ref8_Heads_32_0_0 T h).map fl_ref8_Heads_32_0_0) (getE 2 x_ref8_Heads_32_0_0_0 fl_ref8_Heads_32_0_0_0)) = sx_ref8_Heads_32_0_0 x := by kernel_rfl
noncomputable def L_ref8_Heads_32_0_0 (x : X_ref8_Heads_32_0_0) : Option X_ref8_Heads_32_0_0_0 := iterO (fun x => st_ref8_Heads_32_0_0 x.1 x.2.1 x.2.2.1 x.2.2.2) FUEL x
noncomputable def q_ref8_Heads_32_0 : Nat → Tm → Prog (Nat × Tm) := (varP 0 (fun T h => (rdS s_ref8_Heads_32_0_0 T h).map fl_ref8_Heads_32_0_0) L_ref8_Heads_32_0_0 (altE 2 x_ref8_Heads_32_0_0_0 un_ref8_Heads_32_0_0_0) (fun _ _ => .fail))
noncomputable def lc_ref8_Heads_32_0 : Lpc := ⟨32, 0, 60, (ownP [] [(3, (.int .i64))] (kp_ref8_Heads_32_0 0) (fun base T => .norm base (kp_ref8_Heads_32_0 0) T (q_ref8_Heads_32_0 base))), by kernel_rfl, by kernel_rfl, (own_sound (loopU sp_ref8_Heads [lc_ref8_Heads_32_2] 40 1048576 8 (keep := kp_ref8_Heads_32_0) (q := q_ref8_Heads_32_0) (by kernel_rfl) (varX_ok (s := s_ref8_Heads_32_0_0) (un := un_ref8_Heads_32_0_0) (by rfl) (fun _ => rfl) (getE_ok (s := x_ref8_Heads_32_0_0_0) (un := un_ref8_Heads_32_0_0_0) (by rfl) (fun _ => rfl)) (step := sx_ref8_Heads_32_0_0) rn_ref8_Heads_32_0_0 (fun _ _ e => ⟨_, e⟩) (altE_ok 2 x_ref8_Heads_32_0_0_0 un_ref8_Heads_32_0_0_0) (VarOk.fail _ _))))⟩
noncomputable def g_ref8_Heads (a0 : C) : Option (List Int) :=
  optC (L_ref8_Heads_32_0_0 (0, a0.1, a0.2, [])) none fun d5 ↦ some d5
theorem raw_ref8_Heads (a0 : C) : evGX (cxU sp_ref8_Heads [lc_ref8_Heads_32_2, lc_ref8_Heads_32_0] 40 1048576) keeps 8 32 ash_ref8_Heads (.dat (.sl (.int .i64))) ((a0, ()) : (C × Unit)) = g_ref8_Heads a0 := by kernel_rfl
noncomputable def G_ref8_Heads (x : (C × Unit)) : Option (List Int) := g_ref8_Heads x.1
noncomputable def con_ref8_Heads : List AV → Prog AV := conP true ash_ref8_Heads (.dat (.sl (.int .i64))) G_ref8_Heads
theorem snd_ref8_Heads : SoundA Tryz.prog 32 con_ref8_Heads := conP_sound (calU sp_ref8_Heads [lc_ref8_Heads_32_2, lc_ref8_Heads_32_0] 40 1048576 8 32) true (by rfl) (by rfl) (fun x r e => (evGX_eq _ _ _ _ _ _ _).trans ((raw_ref8_Heads x.1).trans e)) (.inl rfl)
end Go.Proofs.YtmjbedjnojcmfaaGreatDoor.Ex

namespace Go.Proofs.YtmjbedjnojcmfaaGreatDoor.Ex
set_option maxRecDepth 100000
set_option linter.unusedVariables false
set_option linter.unusedSimpArgs false
theorem rangeO_inl {σ α Y : Type} {f : Nat → σ → α → Option (σ ⊕ Y)} {fin : σ → Option Y} {i : Nat} {d : α} {r : List α} {s s' : σ} (h : f i s d = some (.inl s')) : rangeO f fin i (d :: r) s = rangeO f fin (i + 1) r s' := by
  rw [rangeO, h]
theorem fold_range {σ α Y : Type} {f : Nat → σ → α → Option (σ ⊕ Y)} {fin : σ → Option Y} {g : σ → α → σ} (ok : σ → List α → Prop) (h : ∀ j s d r, ok s (d :: r) → f j s d = some (.inl (g s d)) ∧ ok (g s d) r) :
    ∀ (r : List α) (j : Nat) (s : σ), ok s r → rangeO f fin j r s = fin (r.foldl g s)
  | [], _, _, _ => rfl
  | d :: r, j, s, hs => by
    obtain ⟨h1, h2⟩ := h j s d r hs
    rw [rangeO_inl h1, fold_range ok h r (j + 1) (g s d) h2]; rfl
theorem n_num_Fits1 (n : Int) : g_num_Fits [n] = some (fitB n) := by
  unfold g_num_Fits
  have e : L_num_Fits_55_0_0 ([n], 1, 0) = _ := rg_num_Fits_55_0_0 [n] () (by simp)
  have e2 : (([n].length : Nat) : Int) = 1 := rfl
  rw [e2, e]
  unfold rv_num_Fits_55_0_0 fitB
  simp only [rangeO, bd_num_Fits_55_0_0, fn_num_Fits_55_0_0]
  by_cases h1 : n < -2147483648
  · rw [decide_eq_true h1, decide_eq_false (show ¬ n ≥ -2147483648 by omega)]; rfl
  · by_cases h2 : n > 2147483647
    · rw [decide_eq_false h1, decide_eq_true h2, decide_eq_true (show n ≥ -2147483648 by omega), decide_eq_false (show ¬ n ≤ 2147483647 by omega)]; rfl
    · rw [decide_eq_false h1, decide_eq_false h2, decide_eq_true (show n ≥ -2147483648 by omega), decide_eq_true (show n ≤ 2147483647 by omega)]; rfl
def leadsB (h : Int) (d : A) : Bool := d.1 != 14 && (d.1 != 13 && (d.2.2.2.2.2.2.2.1 == h || (d.1 == 11 && d.2.2.2.2.2.2.2.2 == h)))
theorem heads_in (b0 : Int) (acts : List A) (b1 : List Int) (hn : acts.length ≤ 60) (h : Nat) (hh : h ≤ acts.length) :
    L_ref8_Heads_32_2_1 ((h : Int), false, (h : Int), b0, acts, b1) = some ((h : Int), (acts.drop h).any (leadsB h), b0, acts, b1) := by
  have go : ∀ (r : List A) (i : Nat) (s : Bool) (k : Nat), acts.drop i = r → i + r.length = acts.length →
      iterO (fun x : X_ref8_Heads_32_2_1 => st_ref8_Heads_32_2_1 x.1 x.2.1 x.2.2.1 x.2.2.2.1 x.2.2.2.2.1 x.2.2.2.2.2) (k + r.length + 1) ((h : Int), s, (i : Int), b0, acts, b1) = some ((h : Int), s || r.any (leadsB h), b0, acts, b1) := by
    intro r
    induction r with
    | nil =>
      intro i s k hd hi
      have e : decide ((i : Int) < (acts.length : Int)) = false := decide_eq_false (by simp at hi; omega)
      simp only [iterO, st_ref8_Heads_32_2_1, e, cond_false, List.any_nil, Bool.or_false]
    | cons d r ih =>
      intro i s k hd hi
      rw [List.length_cons] at hi ⊢
      have hc : acts[i]? = some d := by
        have := congrArg (fun q => q[0]?) hd
        simpa using this
      have e : decide ((i : Int) < (acts.length : Int)) = true := decide_eq_true (by omega)
      have e0 : decide (0 ≤ (i : Int)) = true := decide_eq_true (by omega)
      have w := wrap_next (i := i) (n := acts.length) (by omega) (by omega)
      have ih' := ih (i + 1) (s || leadsB h d) k (by rw [← List.drop_drop, hd]; rfl) (by omega)
      rw [show k + (r.length + 1) + 1 = (k + r.length + 1) + 1 by omega, iterO, List.any_cons, ← Bool.or_assoc, ← ih']
      simp only [st_ref8_Heads_32_2_1, e, e0, cond_true, Int.toNat_natCast, hc, optC_some, w]
      unfold leadsB
      cases d.1 != 14 <;> cases d.1 != 13 <;> cases s <;> cases d.2.2.2.2.2.2.2.1 == (h : Int) <;> cases d.1 == 11 <;> simp only [cond_true, cond_false, Bool.true_and, Bool.false_and, Bool.true_or, Bool.false_or, Bool.or_false, Bool.or_true, Bool.and_false]
  unfold L_ref8_Heads_32_2_1
  have := go (acts.drop h) h false (FUEL - (acts.length - h) - 1) rfl (by rw [List.length_drop]; omega)
  rw [List.length_drop, show FUEL - (acts.length - h) - 1 + (acts.length - h) + 1 = FUEL by unfold FUEL; omega, Bool.false_or] at this
  exact this
def headsF (acts : List A) (i k : Nat) : List Int := ((List.range' i k).filter fun h => (acts.drop h).any (leadsB h)).map Int.ofNat
theorem n_Heads (c : C) (hn : c.2.length ≤ 60) : g_ref8_Heads c = some (headsF c.2 0 c.2.length) := by
  have go : ∀ (k i : Nat) (s : List Int) (q : Nat), i + k = c.2.length → s.length ≤ i →
      iterO (fun x : X_ref8_Heads_32_0_0 => st_ref8_Heads_32_0_0 x.1 x.2.1 x.2.2.1 x.2.2.2) (q + k + 1) ((i : Int), c.1, c.2, s) = some (s ++ headsF c.2 i k) := by
    intro k
    induction k with
    | zero =>
      intro i s q hi hs
      have e : decide ((i : Int) < (c.2.length : Int)) = false := decide_eq_false (by omega)
      simp only [iterO, st_ref8_Heads_32_0_0, e, cond_false]
      simp [headsF]
    | succ k ih =>
      intro i s q hi hs
      have e : decide ((i : Int) < (c.2.length : Int)) = true := decide_eq_true (by omega)
      have w := wrap_next (i := i) (n := c.2.length) (by omega) (by omega)
      have h1 := heads_in c.1 c.2 s hn i (by omega)
      have lm : decide ((s.length + 0 + 1 + 1) * 8 ≤ lim) = true := decide_eq_true (by unfold lim; omega)
      rw [show q + (k + 1) + 1 = (q + k + 1) + 1 by omega, iterO]
      simp only [st_ref8_Heads_32_0_0, e, cond_true, h1, optC_some, w, List.length_cons, List.length_nil]
      have hF : headsF c.2 i (k + 1) = (bif (c.2.drop i).any (leadsB i) then [(i : Int)] else []) ++ headsF c.2 (i + 1) k := by
        unfold headsF
        rw [List.range'_succ, List.filter_cons]
        cases (c.2.drop i).any (leadsB i) <;> rfl
      rw [hF]
      cases (c.2.drop i).any (leadsB i)
      · simp only [cond_false, List.nil_append]
        exact ih (i + 1) s q (by omega) (by omega)
      · have lm : decide ((s.length + (0 + 1) + 1) * 8 ≤ lim) = true := decide_eq_true (by unfold lim; omega)
        simp only [cond_true, lm]
        rw [← List.append_assoc]
        exact ih (i + 1) (s ++ [(i : Int)]) q (by omega) (by rw [List.length_append]; simp; omega)
  unfold g_ref8_Heads L_ref8_Heads_32_0_0
  have := go c.2.length 0 [] (FUEL - c.2.length - 1) (by omega) (Nat.le_refl _)
  rw [show FUEL - c.2.length - 1 + c.2.length + 1 = FUEL by unfold FUEL; omega] at this
  have this : iterO (fun x : X_ref8_Heads_32_0_0 => st_ref8_Heads_32_0_0 x.1 x.2.1 x.2.2.1 x.2.2.2) FUEL (0, c.1, c.2, []) = _ := this
  rw [this]
  rfl
end Go.Proofs.YtmjbedjnojcmfaaGreatDoor.Ex

namespace Go.Proofs.YtmjbedjnojcmfaaGreatDoor.Ex
open Go.Proofs
set_option maxRecDepth 100000
set_option linter.unusedVariables false
set_option linter.unusedSimpArgs false
def insR (n : Int) : List Int → List Int
  | [] => [n]
  | x :: r => if x < n then x :: insR n r else if x = n then x :: r else n :: x :: r
def layS (l : List Int) (n : Int) : List Int := bif fitB n then insR n l else l
theorem insR_mem (n : Int) : ∀ (l : List Int) (x : Int), x ∈ insR n l ↔ x = n ∨ x ∈ l
  | [], x => by simp [insR]
  | y :: r, x => by
    unfold insR
    split
    · rw [List.mem_cons, insR_mem n r x, List.mem_cons]
      exact ⟨fun h => h.elim (fun k => .inr (.inl k)) (fun k => k.elim .inl (fun q => .inr (.inr q))), fun h => h.elim (fun k => .inr (.inl k)) (fun k => k.elim .inl (fun q => .inr (.inr q)))⟩
    · split
      · rename_i h
        rw [List.mem_cons]
        exact ⟨.inr, fun k => k.elim (fun q => .inl (q.trans h.symm)) id⟩
      · simp only [List.mem_cons]
theorem insR_rise (n : Int) : ∀ (l : List Int), l.Pairwise (· < ·) → (insR n l).Pairwise (· < ·)
  | [], _ => List.pairwise_singleton _ _
  | y :: r, h => by
    rw [List.pairwise_cons] at h
    unfold insR
    split
    · rename_i hy
      rw [List.pairwise_cons]
      refine ⟨fun x hx => ?_, insR_rise n r h.2⟩
      rcases (insR_mem n r x).1 hx with rfl | k
      · exact hy
      · exact h.1 x k
    · split
      · exact List.pairwise_cons.2 h
      · rw [List.pairwise_cons]
        refine ⟨fun x hx => ?_, List.pairwise_cons.2 h⟩
        rcases List.mem_cons.1 hx with rfl | k
        · omega
        · have := h.1 x k; omega
theorem insR_len (n : Int) : ∀ l : List Int, (insR n l).length ≤ l.length + 1
  | [] => by simp [insR]
  | y :: r => by
    unfold insR
    have := insR_len n r
    split
    · simp only [List.length_cons]; omega
    · split <;> simp
def placeR (n : Int) : List Int → Nat
  | [] => 0
  | x :: r => if x < n then placeR n r + 1 else 0
theorem insR_at (n : Int) : ∀ l : List Int, placeR n l ≤ l.length ∧ insR n l = (if l[placeR n l]? = some n then l else l.take (placeR n l) ++ [n] ++ l.drop (placeR n l))
  | [] => ⟨Nat.le_refl _, rfl⟩
  | x :: r => by
    obtain ⟨h1, h2⟩ := insR_at n r
    unfold placeR insR
    by_cases hx : x < n
    · rw [if_pos hx, if_pos hx, h2]
      refine ⟨by simp; omega, ?_⟩
      simp only [List.getElem?_cons_succ, List.take_succ_cons, List.drop_succ_cons]
      split <;> simp
    · rw [if_neg hx, if_neg hx]
      refine ⟨Nat.zero_le _, ?_⟩
      simp only [List.getElem?_cons_zero, Option.some.injEq, List.take_zero, List.drop_zero]
      split <;> simp
theorem lay_go (n : Int) (L : List Int) : ∀ (l : List Int) (j : Nat), j + l.length = L.length → rangeO (fun i s d => bd_ref8_lay_73_0_0 n L i d) (fun s => fn_ref8_lay_73_0_0 n L) j l () = some (L, n, ((j + placeR n l : Nat) : Int))
  | [], j, h => by
    have : j = L.length := by simpa using h
    subst this
    rfl
  | d :: r, j, h => by
    rw [List.length_cons] at h
    by_cases hd : d < n
    · rw [rangeO_inl (s' := ()) (by unfold bd_ref8_lay_73_0_0; rw [decide_eq_true hd]; rfl), lay_go n L r (j + 1) (by omega)]
      simp only [placeR, if_pos hd]
      rw [show j + 1 + placeR n r = j + (placeR n r + 1) by omega]
    · have e : bd_ref8_lay_73_0_0 n L j d = some (.inr (L, n, (j : Int))) := by unfold bd_ref8_lay_73_0_0; rw [decide_eq_false hd]; rfl
      simp only [rangeO, e]
      unfold placeR
      rw [if_neg hd]; rfl
theorem lim8 {n : Nat} (h : n ≤ 100000) : decide ((n + 1) * 8 ≤ lim) = true := decide_eq_true (by unfold lim; omega)
theorem n_ref8_lay (l : List Int) (n : Int) (hl : l.length ≤ 10000) : g_ref8_lay l n = some (layS l n) := by
  unfold g_ref8_lay layS G_ref1_Fits
  rw [n_ref1_Fits n]
  cases fitB n
  · rfl
  simp only [optC_some, Bool.not_true, cond_false, cond_true]
  have := rg_ref8_lay_73_0_0 n l () (by omega)
  rw [this]
  unfold rv_ref8_lay_73_0_0
  rw [lay_go n l l 0 (by simp), Nat.zero_add]
  obtain ⟨h1, h2⟩ := insR_at n l
  rw [h2]
  generalize placeR n l = p at h1
  have c0 : decide ((0 : Int) ≤ 0 ∧ 0 ≤ (p : Int) ∧ (p : Int) ≤ (l.length : Int)) = true := decide_eq_true (by omega)
  have c1 : decide (0 ≤ (p : Int) ∧ (p : Int) ≤ (l.length : Int) ∧ (l.length : Int) ≤ (l.length : Int)) = true := decide_eq_true (by omega)
  have l1 : ∀ k, k ≤ 30000 → decide ((k + 1) * 8 ≤ lim) = true := fun k hk => lim8 (by omega)
  have t1 : (List.drop (Int.toNat 0) (List.take p l)).length ≤ 10000 := by simp; omega
  have t2 : (List.drop p (List.take l.length l)).length ≤ 10000 := by simp; omega
  have fin : ∀ (q : Option (List Int)), q = some ([] ++ List.drop (Int.toNat 0) (List.take p l) ++ [n] ++ List.drop p (List.take l.length l)) → q = some (List.take p l ++ [n] ++ List.drop p l) := fun q hq => by rw [hq]; simp
  by_cases hp : p < l.length
  · have e1 : decide ((p : Int) < (l.length : Int)) = true := decide_eq_true (by omega)
    have e2 : decide (0 ≤ (p : Int)) = true := decide_eq_true (by omega)
    have e3 : l[p]? = some l[p] := List.getElem?_eq_getElem hp
    by_cases hn : l[p] = n
    · simp only [optC_some, e1, e2, e3, cond_true, Int.toNat_natCast, hn, beq_self_eq_true, if_true]
    · have e4 : (l[p] == n) = false := by simpa using hn
      rw [e3, if_neg (fun k => hn (Option.some.inj k))]
      apply fin
      simp only [optC_some, e1, e2, e3, e4, c0, c1, cond_true, cond_false, Int.toNat_natCast]
      rw [l1 _ (by simp; omega), l1 _ (by simp; omega), l1 _ (by simp; omega)]
      rfl
  · have e1 : decide ((p : Int) < (l.length : Int)) = false := decide_eq_false (by omega)
    have e3 : l[p]? = none := List.getElem?_eq_none (by omega)
    rw [e3, if_neg (fun k => nomatch k)]
    apply fin
    simp only [optC_some, e1, c0, c1, cond_true, cond_false, Int.toNat_natCast]
    rw [l1 _ (by simp; omega), l1 _ (by simp; omega), l1 _ (by simp; omega)]
    rfl
end Go.Proofs.YtmjbedjnojcmfaaGreatDoor.Ex

namespace Go.Proofs.YtmjbedjnojcmfaaGreatDoor.Ex
set_option linter.unusedSectionVars false
set_option linter.unusedVariables false
section
variable [RT] {P : Program}
def rowT1 (t : Nat) (x : Tm × Hp) : Tm × Hp := match getT x.1 t with
  | .row id => match findB x.2.blks id with
    | some (.row e l) => ((t, .sl e l) :: x.1, ⟨delB x.2.blks id, x.2.c⟩)
    | _ => x
  | _ => x
def rowTs : List Nat → Tm × Hp → Tm × Hp
  | [], x => x
  | t :: r, x => rowTs r (rowT1 t x)
section
variable {ok : Nat → Prop} {hdr0 hdr : Nat → Value} {S0 S : Stb} {h0 h : Hp} {w0 w : World} {a0 a : Act} {T : Tm}
theorem Left.rowT1 (l : Left P false ok hdr0 S0 h0 w0 a0 h T hdr S a w) (t : Nat) : ∃ S', Left P false ok hdr0 S0 h0 w0 a0 (Go.Proofs.YtmjbedjnojcmfaaGreatDoor.Ex.rowT1 t (T, h)).2 (Go.Proofs.YtmjbedjnojcmfaaGreatDoor.Ex.rowT1 t (T, h)).1 hdr S' a w := by
  unfold Go.Proofs.YtmjbedjnojcmfaaGreatDoor.Ex.rowT1
  simp only
  split
  case h_2 => exact ⟨S, l⟩
  rename_i id hid
  split
  case h_2 => exact ⟨S, l⟩
  rename_i e x hf
  obtain ⟨S', p, hd⟩ := row_del (tr := false) l.post.real l.post.ment hf
  refine ⟨S', l.trans ⟨p, fun s => ?_, fun s n hn => ?_, rfl, rfl⟩⟩
  · rw [getT_cons]
    by_cases k : t = s
    · rw [if_pos k, ← k]
      have hv := l.tmps t
      rw [hid] at hv
      generalize a.tmps.getD t undef = v at hv
      cases hv with | row _ ao len cap hh =>
      rw [hh] at hd
      exact .sl e x _ hd
    · rw [if_neg k]; exact (l.tmps s).mono p.step.sle fun _ _ => rfl
  · rw [getT_cons] at hn
    by_cases k : t = s
    · rw [if_pos k] at hn; simp [AV.ids] at hn
    · rw [if_neg k] at hn; exact .inl (l.tok s n hn)
theorem Left.rowTs : ∀ (ts : List Nat) {T : Tm} {h : Hp} {S : Stb} (_ : Left P false ok hdr0 S0 h0 w0 a0 h T hdr S a w), ∃ S', Left P false ok hdr0 S0 h0 w0 a0 (Go.Proofs.YtmjbedjnojcmfaaGreatDoor.Ex.rowTs ts (T, h)).2 (Go.Proofs.YtmjbedjnojcmfaaGreatDoor.Ex.rowTs ts (T, h)).1 hdr S' a w
  | [], _, _, S, l => ⟨S, l⟩
  | t :: r, T, h, S, l => by
    obtain ⟨S', l'⟩ := l.rowT1 t
    exact Left.rowTs r l'
def rowB1 (id j : Nat) (h : Hp) : Hp := match findB h.blks id with
  | some (.box cs) => match cs[j]? with
    | some (.row k) => match findB h.blks k with
      | some (.row e l) => ⟨setB (delB h.blks k) id (.box (cs.set j (.sl e l))), h.c⟩
      | _ => h
    | _ => h
  | _ => h
def rowBs (base : Nat) : List (Nat × Nat) → Hp → Hp
  | [], h => h
  | (id, j) :: r, h => rowBs base r (rowB1 (base + id) j h)
theorem reps_set {hdr : Nat → Value} {S : Stb} {b : AV} : ∀ {cs : List AV} {vs : List Value} (j : Nat), VReps hdr S cs vs → (∀ v, vs[j]? = some v → VRep hdr S b v) → VReps hdr S (cs.set j b) vs
  | _, _, _, .nil, _ => .nil
  | _, _, 0, .cons a v aZs vs h h', k => .cons b v aZs vs (k v rfl) h'
  | _, _, j + 1, .cons a v aZs vs h h', k => .cons a v _ vs h (reps_set j h' k)
theorem idsL_setR {b : AV} (hb : b.ids = []) : ∀ (cs : List AV) (j n : Nat), n ∈ AV.idsL (cs.set j b) → n ∈ AV.idsL cs
  | [], _, _, h => h
  | a :: r, 0, n, h => by
    simp only [List.set_cons_zero, AV.idsL, hb, List.nil_append] at h
    simp only [AV.idsL, List.mem_append]; exact .inr h
  | a :: r, j + 1, n, h => by
    simp only [List.set_cons_succ, AV.idsL, List.mem_append] at h ⊢
    exact h.imp id (idsL_setR hb r j n)
theorem Left.rowB1 (l : Left P false ok hdr0 S0 h0 w0 a0 h T hdr S a w) (id j : Nat) : ∃ S', Left P false ok hdr0 S0 h0 w0 a0 (Go.Proofs.YtmjbedjnojcmfaaGreatDoor.Ex.rowB1 id j h) T hdr S' a w := by
  unfold Go.Proofs.YtmjbedjnojcmfaaGreatDoor.Ex.rowB1
  split
  case h_2 => exact ⟨S, l⟩
  rename_i cs hf
  split
  case h_2 => exact ⟨S, l⟩
  rename_i k hk
  split
  case h_2 => exact ⟨S, l⟩
  rename_i e x hx
  have hne : id ≠ k := fun q => by rw [q, hx] at hf; cases hf
  obtain ⟨S', p, hd⟩ := row_del (tr := false) l.post.real l.post.ment hx
  have hb := l.post.real.blk id _ hf
  cases hb with | box _ b vs et hh hw hr =>
  have hf2 : findB (delB h.blks k) id = some (.box cs) := by rw [findB_delB, if_neg hne]; exact hf
  have hr2 : VReps hdr S' (cs.set j (.sl e x)) vs := reps_set j (hr.mono p.step.sle fun _ _ => rfl) fun v hv => by
    obtain ⟨v', hv', hrep⟩ := hr.get j _ hk
    rw [hv] at hv'; cases hv'
    cases hrep with | row _ ao len cap hh2 =>
    rw [hh2] at hd
    exact .sl e x _ hd
  have p2 := post_put (tr := false) p.real p.ment id (.box (cs.set j (.sl e x))) _ hf2 (fun n hn => .inl ((l.post.ment id _ hf).2 n (idsL_setR rfl cs j n hn))) w b (by rw [hh]; rfl) rfl rfl rfl rfl (fun _ _ => rfl) (.box _ b vs et hh hw hr2)
  refine ⟨S', l.trans ⟨p.trans p2, fun s => (l.tmps s).mono p.step.sle fun _ _ => rfl, fun s n hn => .inl (l.tok s n hn), rfl, rfl⟩⟩
theorem Left.rowBs (base : Nat) : ∀ (bs : List (Nat × Nat)) {h : Hp} {S : Stb} (_ : Left P false ok hdr0 S0 h0 w0 a0 h T hdr S a w), ∃ S', Left P false ok hdr0 S0 h0 w0 a0 (Go.Proofs.YtmjbedjnojcmfaaGreatDoor.Ex.rowBs base bs h) T hdr S' a w
  | [], _, S, l => ⟨S, l⟩
  | (id, j) :: r, _, S, l => by
    obtain ⟨S', l'⟩ := l.rowB1 (base + id) j
    exact Left.rowBs base r l'
def rowP (bs : List (Nat × Nat)) (ts : List Nat) (keep : List Nat) (r : Nat → Tm → Prog (Nat × Tm)) (base : Nat) (T : Tm) : Prog (Nat × Tm) :=
  .norm base keep T fun T1 => .glob (fun h => some (rowTs ts (T1, rowBs base bs h))) fun T2 => r base T2
theorem row_sound {n : Nat} {c : Code} {bs : List (Nat × Nat)} {ts : List Nat} {keep : List Nat} {r : Nat → Tm → Prog (Nat × Tm)} (hs : SoundC P n c r) : SoundC P n c (rowP bs ts keep r) := by
  intro tr ok hdr0 S0 h0 w0 a0 h T hdr S a w f e T' h' f' Q l hn ev hO hK
  obtain ⟨T1, h1, hdr1, rfl, l1, ev⟩ := l.normed ev
  obtain ⟨S1, l2⟩ := Left.rowBs h0.c bs l1
  obtain ⟨S2, l3⟩ := Left.rowTs ts l2
  unfold ex at ev
  simp only [run, cond_false, Option.bind_some] at ev
  exact hs false ok hdr0 S0 h0 w0 a0 _ _ hdr1 S2 a w f e T' h' f' Q l3 hn ev hO hK
end
end
end Go.Proofs.YtmjbedjnojcmfaaGreatDoor.Ex

namespace Go.Proofs.YtmjbedjnojcmfaaGreatDoor.Ex
open Go.Proofs Go.Proofs.YtmjbedjnojcmfaaGreatDoor
set_option maxRecDepth 100000
set_option maxHeartbeats 2000000
set_option linter.unusedVariables false
set_option linter.unusedSimpArgs false
def ash_ref8_Steps : List Sh := [.dat tU]
def kp_ref8_Steps_33_0 : Nat → List Nat := fun c => bif c.beq 0 then [1, 3, 4] else [1, 3]
def kp_ref8_Steps_33_2 : Nat → List Nat := fun c => bif c.beq 0 then [1, 3, 5] else [1, 3]
def kp_ref8_Steps_33_6 : Nat → List Nat := fun c => bif c.beq 0 then [1, 3, 6, 7] else [1, 3, 6]
def kp_ref8_Steps_33_4 : Nat → List Nat := fun c => bif c.beq 0 then [1, 3, 6] else [3]
noncomputable def sp_ref8_Steps : List Con := [⟨73, con_ref8_lay, snd_ref8_lay⟩]
def s_ref8_Steps_33_0_0 : StS := ⟨[(1, .ptr 0 0), (3, .sl (.int .i64)), (4, .int .i64)], [(0, .box [.sl (.int .i64), .sl (.int .i64), .int .i64, .sl tC])], 1⟩
def x_ref8_Steps_33_0_0_0 : StS := ⟨[(1, .ptr 0 0), (3, .sl (.int .i64))], [(0, .box [.sl (.int .i64), .sl (.int .i64), .int .i64, .sl tC])], 1⟩
abbrev X_ref8_Steps_33_0_0 := ((List Int) × Int × (List Int) × (List Int) × Int × (List C))
def fl_ref8_Steps_33_0_0 (d : StD s_ref8_Steps_33_0_0) : X_ref8_Steps_33_0_0 := (d.1.2.1, d.1.2.2.1, d.2.1.1, d.2.1.2.1, d.2.1.2.2.1, d.2.1.2.2.2.1)
def un_ref8_Steps_33_0_0 (x : X_ref8_Steps_33_0_0) : StD s_ref8_Steps_33_0_0 := (((), x.1, x.2.1, ()), ((x.2.2.1, x.2.2.2.1, x.2.2.2.2.1, x.2.2.2.2.2, ()), ()))
abbrev X_ref8_Steps_33_0_0_0 := ((List Int) × (List Int) × (List Int) × Int × (List C))
def fl_ref8_Steps_33_0_0_0 (d : StD x_ref8_Steps_33_0_0_0) : X_ref8_Steps_33_0_0_0 := (d.1.2.1, d.2.1.1, d.2.1.2.1, d.2.1.2.2.1, d.2.1.2.2.2.1)
def un_ref8_Steps_33_0_0_0 (x : X_ref8_Steps_33_0_0_0) : StD x_ref8_Steps_33_0_0_0 := (((), x.1, ()), ((x.2.1, x.2.2.1, x.2.2.2.1, x.2.2.2.2, ()), ()))
noncomputable def st_ref8_Steps_33_0_0 (s3 : (List Int)) (s4 : Int) (b0 : (List Int)) (b0_1 : (List Int)) (b0_2 : Int) (b0_3 : (List C)) : Option (((List Int) × Int × (List Int) × (List Int) × Int × (List C)) ⊕ ((List Int) × (List Int) × (List Int) × Int × (List C))) :=
  bif decide (s4 < (↑b0.length : Int)) then
 bif decide (0 ≤ s4) then
 optC b0[s4.toNat]? none fun d11 ↦ optC (G_ref8_lay (s3, d11, ())) none fun d12 ↦ some (Sum.inl (d12, Go.IntKind.i64.wrap (s4 + 1), b0, b0_1, b0_2, b0_3))
 else none
 else some (Sum.inr (s3, b0, b0_1, b0_2, b0_3))
noncomputable def sx_ref8_Steps_33_0_0 (x : X_ref8_Steps_33_0_0) : Option (X_ref8_Steps_33_0_0 ⊕ X_ref8_Steps_33_0_0_0) := st_ref8_Steps_33_0_0 x.1 x.2.1 x.2.2.1 x.2.2.2.1 x.2.2.2.2.1 x.2.2.2.2.2
theorem rn_ref8_Steps_33_0_0 (x : X_ref8_Steps_33_0_0) : rdX (cxU sp_ref8_Steps [] 40 1048576) keeps 8 ⟨33, 88, keeps 33, 0⟩ 0 (bodyX 33 0) 0 kp_ref8_Steps_33_0 (sT s_ref8_Steps_33_0_0 (un_ref8_Steps_33_0_0 x)) (sH s_ref8_Steps_33_0_0 (un_ref8_Steps_33_0_0 x)) (rdO (fun T h => (rdS s_ref8_Steps_33_0_0 T h).map fl_ref8_Steps_33_0_0) (getE 2 x_ref8_Steps_33_0_0_0 fl_ref8_Steps_33_0_0_0)) = sx_ref8_Steps_33_0_0 x := by kernel_rfl
noncomputable def L_ref8_Steps_33_0_0 (x : X_ref8_Steps_33_0_0) : Option X_ref8_Steps_33_0_0_0 := iterO (fun x => st_ref8_Steps_33_0_0 x.1 x.2.1 x.2.2.1 x.2.2.2.1 x.2.2.2.2.1 x.2.2.2.2.2) FUEL x
noncomputable def q_ref8_Steps_33_0 : Nat → Tm → Prog (Nat × Tm) := (varP 0 (fun T h => (rdS s_ref8_Steps_33_0_0 T h).map fl_ref8_Steps_33_0_0) L_ref8_Steps_33_0_0 (altE 2 x_ref8_Steps_33_0_0_0 un_ref8_Steps_33_0_0_0) (fun _ _ => .fail))
noncomputable def lc_ref8_Steps_33_0 : Lpc := ⟨33, 0, 88, (rowP [] [3] (kp_ref8_Steps_33_0 0) (fun base T => .norm base (kp_ref8_Steps_33_0 0) T (q_ref8_Steps_33_0 base))), by kernel_rfl, by kernel_rfl, (row_sound (loopU sp_ref8_Steps [] 40 1048576 8 (keep := kp_ref8_Steps_33_0) (q := q_ref8_Steps_33_0) (by kernel_rfl) (varX_ok (s := s_ref8_Steps_33_0_0) (un := un_ref8_Steps_33_0_0) (by rfl) (fun _ => rfl) (getE_ok (s := x_ref8_Steps_33_0_0_0) (un := un_ref8_Steps_33_0_0_0) (by rfl) (fun _ => rfl)) (step := sx_ref8_Steps_33_0_0) rn_ref8_Steps_33_0_0 (fun _ _ e => ⟨_, e⟩) (altE_ok 2 x_ref8_Steps_33_0_0_0 un_ref8_Steps_33_0_0_0) (VarOk.fail _ _))))⟩
noncomputable abbrev cx_ref8_Steps_33_2 := cxU sp_ref8_Steps [lc_ref8_Steps_33_0] 40 1048576
def s_ref8_Steps_33_2_0 : StS := ⟨[(1, .ptr 0 0), (3, .sl (.int .i64)), (5, .int .i64)], [(0, .box [.sl (.int .i64), .sl (.int .i64), .int .i64, .sl tC])], 1⟩
def x_ref8_Steps_33_2_0_0 : StS := ⟨[(1, .ptr 0 0), (3, .sl (.int .i64))], [(0, .box [.sl (.int .i64), .sl (.int .i64), .int .i64, .sl tC])], 1⟩
abbrev X_ref8_Steps_33_2_0 := ((List Int) × Int × (List Int) × (List Int) × Int × (List C))
def fl_ref8_Steps_33_2_0 (d : StD s_ref8_Steps_33_2_0) : X_ref8_Steps_33_2_0 := (d.1.2.1, d.1.2.2.1, d.2.1.1, d.2.1.2.1, d.2.1.2.2.1, d.2.1.2.2.2.1)
def un_ref8_Steps_33_2_0 (x : X_ref8_Steps_33_2_0) : StD s_ref8_Steps_33_2_0 := (((), x.1, x.2.1, ()), ((x.2.2.1, x.2.2.2.1, x.2.2.2.2.1, x.2.2.2.2.2, ()), ()))
abbrev X_ref8_Steps_33_2_0_0 := ((List Int) × (List Int) × (List Int) × Int × (List C))
def fl_ref8_Steps_33_2_0_0 (d : StD x_ref8_Steps_33_2_0_0) : X_ref8_Steps_33_2_0_0 := (d.1.2.1, d.2.1.1, d.2.1.2.1, d.2.1.2.2.1, d.2.1.2.2.2.1)
def un_ref8_Steps_33_2_0_0 (x : X_ref8_Steps_33_2_0_0) : StD x_ref8_Steps_33_2_0_0 := (((), x.1, ()), ((x.2.1, x.2.2.1, x.2.2.2.1, x.2.2.2.2, ()), ()))
noncomputable def st_ref8_Steps_33_2_0 (s3 : (List Int)) (s5 : Int) (b0 : (List Int)) (b0_1 : (List Int)) (b0_2 : Int) (b0_3 : (List C)) : Option (((List Int) × Int × (List Int) × (List Int) × Int × (List C)) ⊕ ((List Int) × (List Int) × (List Int) × Int × (List C))) :=
  bif decide (s5 < (↑b0_1.length : Int)) then
 bif decide (0 ≤ s5) then
 optC b0_1[s5.toNat]? none fun d11 ↦
 optC (G_ref8_lay (s3, d11, ())) none fun d12 ↦
 bif decide (0 ≤ s5) then
 optC b0_1[s5.toNat]? none fun d13 ↦
 optC (G_ref8_lay (d12, Go.IntKind.i64.wrap (d13 - 1), ())) none fun d14 ↦ some (Sum.inl (d14, Go.IntKind.i64.wrap (s5 + 1), b0, b0_1, b0_2, b0_3))
 else none
 else none
 else some (Sum.inr (s3, b0, b0_1, b0_2, b0_3))
noncomputable def sx_ref8_Steps_33_2_0 (x : X_ref8_Steps_33_2_0) : Option (X_ref8_Steps_33_2_0 ⊕ X_ref8_Steps_33_2_0_0) := st_ref8_Steps_33_2_0 x.1 x.2.1 x.2.2.1 x.2.2.2.1 x.2.2.2.2.1 x.2.2.2.2.2
theorem rn_ref8_Steps_33_2_0 (x : X_ref8_Steps_33_2_0) : rdX cx_ref8_Steps_33_2 keeps 8 ⟨33, 88, keeps 33, 0⟩ 2 (bodyX 33 2) 0 kp_ref8_Steps_33_2 (sT s_ref8_Steps_33_2_0 (un_ref8_Steps_33_2_0 x)) (sH s_ref8_Steps_33_2_0 (un_ref8_Steps_33_2_0 x)) (rdO (fun T h => (rdS s_ref8_Steps_33_2_0 T h).map fl_ref8_Steps_33_2_0) (getE 4 x_ref8_Steps_33_2_0_0 fl_ref8_Steps_33_2_0_0)) = sx_ref8_Steps_33_2_0 x := by kernel_rfl
noncomputable def L_ref8_Steps_33_2_0 (x : X_ref8_Steps_33_2_0) : Option X_ref8_Steps_33_2_0_0 := iterO (fun x => st_ref8_Steps_33_2_0 x.1 x.2.1 x.2.2.1 x.2.2.2.1 x.2.2.2.2.1 x.2.2.2.2.2) FUEL x
noncomputable def q_ref8_Steps_33_2 : Nat → Tm → Prog (Nat × Tm) := (varP 0 (fun T h => (rdS s_ref8_Steps_33_2_0 T h).map fl_ref8_Steps_33_2_0) L_ref8_Steps_33_2_0 (altE 4 x_ref8_Steps_33_2_0_0 un_ref8_Steps_33_2_0_0) (fun _ _ => .fail))
noncomputable def lc_ref8_Steps_33_2 : Lpc := ⟨33, 2, 88, (fun base T => .norm base (kp_ref8_Steps_33_2 0) T (q_ref8_Steps_33_2 base)), by kernel_rfl, by kernel_rfl, (loopU sp_ref8_Steps [lc_ref8_Steps_33_0] 40 1048576 8 (keep := kp_ref8_Steps_33_2) (q := q_ref8_Steps_33_2) (by kernel_rfl) (varX_ok (s := s_ref8_Steps_33_2_0) (un := un_ref8_Steps_33_2_0) (by rfl) (fun _ => rfl) (getE_ok (s := x_ref8_Steps_33_2_0_0) (un := un_ref8_Steps_33_2_0_0) (by rfl) (fun _ => rfl)) (step := sx_ref8_Steps_33_2_0) rn_ref8_Steps_33_2_0 (fun _ _ e => ⟨_, e⟩) (altE_ok 4 x_ref8_Steps_33_2_0_0 un_ref8_Steps_33_2_0_0) (VarOk.fail _ _)))⟩
noncomputable abbrev cx_ref8_Steps_33_6 := cxU sp_ref8_Steps [lc_ref8_Steps_33_0, lc_ref8_Steps_33_2] 40 1048576
def s_ref8_Steps_33_6_0 : StS := ⟨[(1, .ptr 0 0), (3, .sl (.int .i64)), (6, .int .i64), (7, .int .i64)], [(0, .box [.sl (.int .i64), .sl (.int .i64), .int .i64, .sl tC])], 1⟩
def x_ref8_Steps_33_6_0_0 : StS := ⟨[(1, .ptr 0 0), (3, .sl (.int .i64)), (6, .int .i64)], [(0, .box [.sl (.int .i64), .sl (.int .i64), .int .i64, .sl tC])], 1⟩
abbrev X_ref8_Steps_33_6_0 := ((List Int) × Int × Int × (List Int) × (List Int) × Int × (List C))
def fl_ref8_Steps_33_6_0 (d : StD s_ref8_Steps_33_6_0) : X_ref8_Steps_33_6_0 := (d.1.2.1, d.1.2.2.1, d.1.2.2.2.1, d.2.1.1, d.2.1.2.1, d.2.1.2.2.1, d.2.1.2.2.2.1)
def un_ref8_Steps_33_6_0 (x : X_ref8_Steps_33_6_0) : StD s_ref8_Steps_33_6_0 := (((), x.1, x.2.1, x.2.2.1, ()), ((x.2.2.2.1, x.2.2.2.2.1, x.2.2.2.2.2.1, x.2.2.2.2.2.2, ()), ()))
abbrev X_ref8_Steps_33_6_0_0 := ((List Int) × Int × (List Int) × (List Int) × Int × (List C))
def fl_ref8_Steps_33_6_0_0 (d : StD x_ref8_Steps_33_6_0_0) : X_ref8_Steps_33_6_0_0 := (d.1.2.1, d.1.2.2.1, d.2.1.1, d.2.1.2.1, d.2.1.2.2.1, d.2.1.2.2.2.1)
def un_ref8_Steps_33_6_0_0 (x : X_ref8_Steps_33_6_0_0) : StD x_ref8_Steps_33_6_0_0 := (((), x.1, x.2.1, ()), ((x.2.2.1, x.2.2.2.1, x.2.2.2.2.1, x.2.2.2.2.2, ()), ()))
noncomputable def st_ref8_Steps_33_6_0 (s3 : (List Int)) (s6 : Int) (s7 : Int) (b0 : (List Int)) (b0_1 : (List Int)) (b0_2 : Int) (b0_3 : (List C)) : Option (((List Int) × Int × Int × (List Int) × (List Int) × Int × (List C)) ⊕ ((List Int) × Int × (List Int) × (List Int) × Int × (List C))) :=
  bif decide (0 ≤ s6) then
 optC b0_3[s6.toNat]? none fun d12 ↦
 bif decide (s7 < (↑(List.length d12.2) : Int)) then
 bif decide (0 ≤ s6) then
 optC b0_3[s6.toNat]? none fun d13 ↦
 bif decide (0 ≤ s7) then
 optC d13.2[s7.toNat]? none fun d14 ↦
 bif d14.1 == 1 then
 optC (G_ref8_lay (s3, d14.2.2.2.2.2.1, ())) none fun d15 ↦
 optC (G_ref8_lay (d15, Go.IntKind.i64.wrap (d14.2.2.2.2.2.1 - 1), ())) none fun d16 ↦
 optC (G_ref8_lay (d16, Go.IntKind.i64.wrap (d14.2.2.2.2.2.1 + 1), ())) none fun d17 ↦
 some (Sum.inl (d17, s6, Go.IntKind.i64.wrap (s7 + 1), b0, b0_1, b0_2, b0_3))
 else some (Sum.inl (s3, s6, Go.IntKind.i64.wrap (s7 + 1), b0, b0_1, b0_2, b0_3))
 else none
 else none
 else some (Sum.inr (s3, s6, b0, b0_1, b0_2, b0_3))
 else none
noncomputable def sx_ref8_Steps_33_6_0 (x : X_ref8_Steps_33_6_0) : Option (X_ref8_Steps_33_6_0 ⊕ X_ref8_Steps_33_6_0_0) := st_ref8_Steps_33_6_0 x.1 x.2.1 x.2.2.1 x.2.2.2.1 x.2.2.2.2.1 x.2.2.2.2.2.1 x.2.2.2.2.2.2
theorem rn_ref8_Steps_33_6_0 (x : X_ref8_Steps_33_6_0) : rdX cx_ref8_Steps_33_6 keeps 8 ⟨33, 88, keeps 33, 0⟩ 6 (bodyX 33 6) 0 kp_ref8_Steps_33_6 (sT s_ref8_Steps_33_6_0 (un_ref8_Steps_33_6_0 x)) (sH s_ref8_Steps_33_6_0 (un_ref8_Steps_33_6_0 x)) (rdO (fun T h => (rdS s_ref8_Steps_33_6_0 T h).map fl_ref8_Steps_33_6_0) (getE 8 x_ref8_Steps_33_6_0_0 fl_ref8_Steps_33_6_0_0)) = sx_ref8_Steps_33_6_0 x := by kernel_rfl
noncomputable def L_ref8_Steps_33_6_0 (x : X_ref8_Steps_33_6_0) : Option X_ref8_Steps_33_6_0_0 := iterO (fun x => st_ref8_Steps_33_6_0 x.1 x.2.1 x.2.2.1 x.2.2.2.1 x.2.2.2.2.1 x.2.2.2.2.2.1 x.2.2.2.2.2.2) FUEL x
noncomputable def q_ref8_Steps_33_6 : Nat → Tm → Prog (Nat × Tm) := (varP 0 (fun T h => (rdS s_ref8_Steps_33_6_0 T h).map fl_ref8_Steps_33_6_0) L_ref8_Steps_33_6_0 (altE 8 x_ref8_Steps_33_6_0_0 un_ref8_Steps_33_6_0_0) (fun _ _ => .fail))
noncomputable def lc_ref8_Steps_33_6 : Lpc := ⟨33, 6, 88, (fun base T => .norm base (kp_ref8_Steps_33_6 0) T (q_ref8_Steps_33_6 base)), by kernel_rfl, by kernel_rfl, (loopU sp_ref8_Steps [lc_ref8_Steps_33_0, lc_ref8_Steps_33_2] 40 1048576 8 (keep := kp_ref8_Steps_33_6) (q := q_ref8_Steps_33_6) (by kernel_rfl) (varX_ok (s := s_ref8_Steps_33_6_0) (un := un_ref8_Steps_33_6_0) (by rfl) (fun _ => rfl) (getE_ok (s := x_ref8_Steps_33_6_0_0) (un := un_ref8_Steps_33_6_0_0) (by rfl) (fun _ => rfl)) (step := sx_ref8_Steps_33_6_0) rn_ref8_Steps_33_6_0 (fun _ _ e => ⟨_, e⟩) (altE_ok 8 x_ref8_Steps_33_6_0_0 un_ref8_Steps_33_6_0_0) (VarOk.fail _ _)))⟩
noncomputable abbrev cx_ref8_Steps_33_4 := cxU sp_ref8_Steps [lc_ref8_Steps_33_0, lc_ref8_Steps_33_2, lc_ref8_Steps_33_6] 40 1048576
def s_ref8_Steps_33_4_0 : StS := ⟨[(1, .ptr 0 0), (3, .sl (.int .i64)), (6, .int .i64)], [(0, .box [.sl (.int .i64), .sl (.int .i64), .int .i64, .sl tC])], 1⟩
def x_ref8_Steps_33_4_0_0 : StS := ⟨[(3, .sl (.int .i64))], [], 0⟩
abbrev X_ref8_Steps_33_4_0 := ((List Int) × Int × (List Int) × (List Int) × Int × (List C))
def fl_ref8_Steps_33_4_0 (d : StD s_ref8_Steps_33_4_0) : X_ref8_Steps_33_4_0 := (d.1.2.1, d.1.2.2.1, d.2.1.1, d.2.1.2.1, d.2.1.2.2.1, d.2.1.2.2.2.1)
def un_ref8_Steps_33_4_0 (x : X_ref8_Steps_33_4_0) : StD s_ref8_Steps_33_4_0 := (((), x.1, x.2.1, ()), ((x.2.2.1, x.2.2.2.1, x.2.2.2.2.1, x.2.2.2.2.2, ()), ()))
abbrev X_ref8_Steps_33_4_0_0 := (List Int)
def fl_ref8_Steps_33_4_0_0 (d : StD x_ref8_Steps_33_4_0_0) : X_ref8_Steps_33_4_0_0 := (d.1.1)
def un_ref8_Steps_33_4_0_0 (x : X_ref8_Steps_33_4_0_0) : StD x_ref8_Steps_33_4_0_0 := ((x, ()), ())
noncomputable def st_ref8_Steps_33_4_0 (s3 : (List Int)) (s6 : Int) (b0 : (List Int)) (b0_1 : (List Int)) (b0_2 : Int) (b0_3 : (List C)) : Option (((List Int) × Int × (List Int) × (List Int) × Int × (List C)) ⊕ (List Int)) :=
  bif decide (s6 < (↑b0_3.length : Int)) then
 optC (L_ref8_Steps_33_6_0 (s3, s6, 0, b0, b0_1, b0_2, b0_3)) none fun d11 ↦
 some (Sum.inl (d11.1, Go.IntKind.i64.wrap (d11.2.1 + 1), d11.2.2.1, d11.2.2.2.1, d11.2.2.2.2.1, d11.2.2.2.2.2))
 else some (Sum.inr s3)
noncomputable def sx_ref8_Steps_33_4_0 (x : X_ref8_Steps_33_4_0) : Option (X_ref8_Steps_33_4_0 ⊕ X_ref8_Steps_33_4_0_0) := st_ref8_Steps_33_4_0 x.1 x.2.1 x.2.2.1 x.2.2.2.1 x.2.2.2.2.1 x.2.2.2.2.2
theorem rn_ref8_Steps_33_4_0 (x : X_ref8_Steps_33_4_0) : rdX cx_ref8_Steps_33_4 keeps 8 ⟨33, 88, keeps 33, 0⟩ 4 (bodyX 33 4) 0 kp_ref8_Steps_33_4 (sT s_ref8_Steps_33_4_0 (un_ref8_Steps_33_4_0 x)) (sH s_ref8_Steps_33_4_0 (un_ref8_Steps_33_4_0 x)) (rdO (fun T h => (rdS s_ref8_Steps_33_4_0 T h).map fl_ref8_Steps_33_4_0) (getE 6 x_ref8_Steps_33_4_0_0 fl_ref8_Steps_33_4_0_0)) = sx_ref8_Steps_33_4_0 x := by kernel_rfl
noncomputable def L_ref8_Steps_33_4_0 (x : X_ref8_Steps_33_4_0) : Option X_ref8_Steps_33_4_0_0 := iterO (fun x => st_ref8_Steps_33_4_0 x.1 x.2.1 x.2.2.1 x.2.2.2.1 x.2.2.2.2.1 x.2.2.2.2.2) FUEL x
noncomputable def q_ref8_Steps_33_4 : Nat → Tm → Prog (Nat × Tm) := (varP 0 (fun T h => (rdS s_ref8_Steps_33_4_0 T h).map fl_ref8_Steps_33_4_0) L_ref8_Steps_33_4_0 (altE 6 x_ref8_Steps_33_4_0_0 un_ref8_Steps_33_4_0_0) (fun _ _ => .fail))
noncomputable def lc_ref8_Steps_33_4 : Lpc := ⟨33, 4, 88, (fun base T => .norm base (kp_ref8_Steps_33_4 0) T (q_ref8_Steps_33_4 base)), by kernel_rfl, by kernel_rfl, (loopU sp_ref8_Steps [lc_ref8_Steps_33_0, lc_ref8_Steps_33_2, lc_ref8_Steps_33_6] 40 1048576 8 (keep := kp_ref8_Steps_33_4) (q := q_ref8_Steps_33_4) (by kernel_rfl) (varX_ok (s := s_ref8_Steps_33_4_0) (un := un_ref8_Steps_33_4_0) (by rfl) (fun _ => rfl) (getE_ok (s := x_ref8_Steps_33_4_0_0) (un := un_ref8_Steps_33_4_0_0) (by rfl) (fun _ => rfl)) (step := sx_ref8_Steps_33_4_0) rn_ref8_Steps_33_4_0 (fun _ _ e => ⟨_, e⟩) (altE_ok 6 x_ref8_Steps_33_4_0_0 un_ref8_Steps_33_4_0_0) (VarOk.fail _ _)))⟩
noncomputable def g_ref8_Steps (a0 : U) : Option (List Int) :=
  optC (L_ref8_Steps_33_0_0 ([-1, 0, 1], 0, a0)) none fun d6 ↦
 optC (L_ref8_Steps_33_2_0 (d6.1, 0, d6.2)) none fun d7 ↦ optC (L_ref8_Steps_33_4_0 (d7.1, 0, d7.2)) none fun d8 ↦ some d8
theorem raw_ref8_Steps (a0 : U) : evGX (cxU sp_ref8_Steps [lc_ref8_Steps_33_0, lc_ref8_Steps_33_2, lc_ref8_Steps_33_6, lc_ref8_Steps_33_4] 40 1048576) keeps 8 33 ash_ref8_Steps (.dat (.sl (.int .i64))) ((a0, ()) : (U × Unit)) = g_ref8_Steps a0 := by kernel_rfl
noncomputable def G_ref8_Steps (x : (U × Unit)) : Option (List Int) := g_ref8_Steps x.1
noncomputable def con_ref8_Steps : List AV → Prog AV := conP true ash_ref8_Steps (.dat (.sl (.int .i64))) G_ref8_Steps
theorem snd_ref8_Steps : SoundA Tryz.prog 33 con_ref8_Steps := conP_sound (calU sp_ref8_Steps [lc_ref8_Steps_33_0, lc_ref8_Steps_33_2, lc_ref8_Steps_33_6, lc_ref8_Steps_33_4] 40 1048576 8 33) true (by rfl) (by rfl) (fun x r e => (evGX_eq _ _ _ _ _ _ _).trans ((raw_ref8_Steps x.1).trans e)) (.inl rfl)
end Go.Proofs.YtmjbedjnojcmfaaGreatDoor.Ex

namespace Go.Proofs.YtmjbedjnojcmfaaGreatDoor.Ex
set_option maxRecDepth 100000
set_option maxHeartbeats 2000000
set_option linter.unusedVariables false
set_option linter.unusedSimpArgs false
noncomputable def bd_ref8_Steps_33_0_0 (b0_1 : (List Int)) (b0_2 : Int) (b0_3 : (List C)) (b0 : (List Int)) (i : Nat) (s3 : (List Int)) (d : Int) : Option ((List Int) ⊕ X_ref8_Steps_33_0_0_0) :=
  optC (G_ref8_lay (s3, d, ())) (none) fun d12 ↦
   some (Sum.inl (d12))
noncomputable def fn_ref8_Steps_33_0_0 (b0_1 : (List Int)) (b0_2 : Int) (b0_3 : (List C)) (b0 : (List Int)) (s3 : (List Int)) : Option X_ref8_Steps_33_0_0_0 :=
  some (s3, b0, b0_1, b0_2, b0_3)
noncomputable abbrev rx_ref8_Steps_33_0_0 (b0_1 : (List Int)) (b0_2 : Int) (b0_3 : (List C)) (b0 : (List Int)) (i : Nat) (s : (List Int)) : X_ref8_Steps_33_0_0 := (s, (i : Int), b0, b0_1, b0_2, b0_3)
noncomputable def rv_ref8_Steps_33_0_0 (b0_1 : (List Int)) (b0_2 : Int) (b0_3 : (List C)) (b0 : (List Int)) (s : (List Int)) : Option X_ref8_Steps_33_0_0_0 := rangeO (fun i s d => bd_ref8_Steps_33_0_0 b0_1 b0_2 b0_3 b0 i s d) (fun s => fn_ref8_Steps_33_0_0 b0_1 b0_2 b0_3 b0 s) 0 b0 s
theorem rg_ref8_Steps_33_0_0 (b0_1 : (List Int)) (b0_2 : Int) (b0_3 : (List C)) (b0 : (List Int)) (s : (List Int)) (hl : b0.length < 9223372036854775807) : L_ref8_Steps_33_0_0 (s, 0, b0, b0_1, b0_2, b0_3) = rv_ref8_Steps_33_0_0 b0_1 b0_2 b0_3 b0 s := by
  unfold L_ref8_Steps_33_0_0 rv_ref8_Steps_33_0_0
  refine iterO_range0 b0 (rx_ref8_Steps_33_0_0 b0_1 b0_2 b0_3 b0) _ _ ?_ ?_ s (by unfold FUEL; omega)
  · intro i s d hi hd
    have e1 : decide ((i : Int) < (b0.length : Int)) = true := decide_eq_true (by omega)
    have e2 : decide (0 ≤ (i : Int)) = true := decide_eq_true (by omega)
    have e3 : Int.toNat (i : Int) = i := Int.toNat_natCast i
    have e4 := wrap_next hi (Nat.le_of_lt hl)
    show st_ref8_Steps_33_0_0 (s) ((i : Int)) (b0) (b0_1) (b0_2) (b0_3) = upd _ (bd_ref8_Steps_33_0_0 b0_1 b0_2 b0_3 b0 i s d)
    unfold st_ref8_Steps_33_0_0 bd_ref8_Steps_33_0_0
    simp only [e1, e2, e3, e4, hd, cond_true, cond_false, optC_some, upd_cond, upd_optC, upd_elim, upd_inl, upd_inr, upd_none]
  · intro s
    have e1 : decide ((b0.length : Int) < (b0.length : Int)) = false := decide_eq_false (by omega)
    show st_ref8_Steps_33_0_0 (s) ((b0.length : Int)) (b0) (b0_1) (b0_2) (b0_3) = _
    unfold st_ref8_Steps_33_0_0 fn_ref8_Steps_33_0_0
    rw [e1]
    rfl
noncomputable def bd_ref8_Steps_33_2_0 (b0 : (List Int)) (b0_2 : Int) (b0_3 : (List C)) (b0_1 : (List Int)) (i : Nat) (s3 : (List Int)) (d : Int) : Option ((List Int) ⊕ X_ref8_Steps_33_2_0_0) :=
  optC (G_ref8_lay (s3, d, ())) (none) fun d12 ↦
   optC (G_ref8_lay (d12, Go.IntKind.i64.wrap (d - 1), ())) (none) fun d14 ↦
   some (Sum.inl (d14))
noncomputable def fn_ref8_Steps_33_2_0 (b0 : (List Int)) (b0_2 : Int) (b0_3 : (List C)) (b0_1 : (List Int)) (s3 : (List Int)) : Option X_ref8_Steps_33_2_0_0 :=
  some (s3, b0, b0_1, b0_2, b0_3)
noncomputable abbrev rx_ref8_Steps_33_2_0 (b0 : (List Int)) (b0_2 : Int) (b0_3 : (List C)) (b0_1 : (List Int)) (i : Nat) (s : (List Int)) : X_ref8_Steps_33_2_0 := (s, (i : Int), b0, b0_1, b0_2, b0_3)
noncomputable def rv_ref8_Steps_33_2_0 (b0 : (List Int)) (b0_2 : Int) (b0_3 : (List C)) (b0_1 : (List Int)) (s : (List Int)) : Option X_ref8_Steps_33_2_0_0 := rangeO (fun i s d => bd_ref8_Steps_33_2_0 b0 b0_2 b0_3 b0_1 i s d) (fun s => fn_ref8_Steps_33_2_0 b0 b0_2 b0_3 b0_1 s) 0 b0_1 s
theorem rg_ref8_Steps_33_2_0 (b0 : (List Int)) (b0_2 : Int) (b0_3 : (List C)) (b0_1 : (List Int)) (s : (List Int)) (hl : b0_1.length < 9223372036854775807) : L_ref8_Steps_33_2_0 (s, 0, b0, b0_1, b0_2, b0_3) = rv_ref8_Steps_33_2_0 b0 b0_2 b0_3 b0_1 s := by
  unfold L_ref8_Steps_33_2_0 rv_ref8_Steps_33_2_0
  refine iterO_range0 b0_1 (rx_ref8_Steps_33_2_0 b0 b0_2 b0_3 b0_1) _ _ ?_ ?_ s (by unfold FUEL; omega)
  · intro i s d hi hd
    have e1 : decide ((i : Int) < (b0_1.length : Int)) = true := decide_eq_true (by omega)
    have e2 : decide (0 ≤ (i : Int)) = true := decide_eq_true (by omega)
    have e3 : Int.toNat (i : Int) = i := Int.toNat_natCast i
    have e4 := wrap_next hi (Nat.le_of_lt hl)
    show st_ref8_Steps_33_2_0 (s) ((i : Int)) (b0) (b0_1) (b0_2) (b0_3) = upd _ (bd_ref8_Steps_33_2_0 b0 b0_2 b0_3 b0_1 i s d)
    unfold st_ref8_Steps_33_2_0 bd_ref8_Steps_33_2_0
    simp only [e1, e2, e3, e4, hd, cond_true, cond_false, optC_some, upd_cond, upd_optC, upd_elim, upd_inl, upd_inr, upd_none]
  · intro s
    have e1 : decide ((b0_1.length : Int) < (b0_1.length : Int)) = false := decide_eq_false (by omega)
    show st_ref8_Steps_33_2_0 (s) ((b0_1.length : Int)) (b0) (b0_1) (b0_2) (b0_3) = _
    unfold st_ref8_Steps_33_2_0 fn_ref8_Steps_33_2_0
    rw [e1]
    rfl
end Go.Proofs.YtmjbedjnojcmfaaGreatDoor.Ex

namespace Go.Proofs.YtmjbedjnojcmfaaGreatDoor.Ex
open Go.Proofs
set_option maxRecDepth 100000
set_option linter.unusedVariables false
set_option linter.unusedSimpArgs false
theorem layS_len (l : List Int) (n : Int) : (layS l n).length ≤ l.length + 1 := by
  unfold layS
  cases fitB n
  · simp
  · exact insR_len n l
theorem layS_rise {l : List Int} (h : l.Pairwise (· < ·)) (n : Int) : (layS l n).Pairwise (· < ·) := by
  unfold layS
  cases fitB n
  · exact h
  · exact insR_rise n l h
theorem layS_mem (l : List Int) (n x : Int) : x ∈ layS l n ↔ (x = n ∧ fitB n = true) ∨ x ∈ l := by
  unfold layS
  cases h : fitB n
  · simp
  · simp [insR_mem]
theorem lays_len : ∀ (es l : List Int), (es.foldl layS l).length ≤ l.length + es.length
  | [], l => Nat.le_refl _
  | e :: r, l => by
    have := lays_len r (layS l e)
    have := layS_len l e
    simp only [List.foldl_cons, List.length_cons]; omega
theorem lays_rise : ∀ (es : List Int) {l : List Int}, l.Pairwise (· < ·) → (es.foldl layS l).Pairwise (· < ·)
  | [], _, h => h
  | e :: r, _, h => lays_rise r (layS_rise h e)
theorem lays_mem (x : Int) : ∀ (es l : List Int), x ∈ es.foldl layS l ↔ (x ∈ es ∧ fitB x = true) ∨ x ∈ l
  | [], l => by simp
  | e :: r, l => by
    rw [List.foldl_cons, lays_mem x r, layS_mem, List.mem_cons]
    constructor
    · rintro (⟨h, k⟩ | ⟨rfl, k⟩ | h)
      · exact .inl ⟨.inr h, k⟩
      · exact .inl ⟨.inl rfl, k⟩
      · exact .inr h
    · rintro (⟨rfl | h, k⟩ | h)
      · exact .inr (.inl ⟨rfl, k⟩)
      · exact .inl ⟨h, k⟩
      · exact .inr (.inr h)
end Go.Proofs.YtmjbedjnojcmfaaGreatDoor.Ex

namespace Go.Proofs.YtmjbedjnojcmfaaGreatDoor.Ex
open Go.Proofs
set_option maxRecDepth 100000
set_option maxHeartbeats 2000000
set_option linter.unusedVariables false
set_option linter.unusedSimpArgs false
def actS (l : List Int) (a : A) : List Int := bif a.1 == 1 then layS (layS (layS l a.2.2.2.2.2.1) (a.2.2.2.2.2.1 - 1)) (a.2.2.2.2.2.1 + 1) else l
theorem actS_len (l : List Int) (a : A) : (actS l a).length ≤ l.length + 3 := by
  unfold actS
  have h1 := layS_len l a.2.2.2.2.2.1
  have h2 := layS_len (layS l a.2.2.2.2.2.1) (a.2.2.2.2.2.1 - 1)
  have h3 := layS_len (layS (layS l a.2.2.2.2.2.1) (a.2.2.2.2.2.1 - 1)) (a.2.2.2.2.2.1 + 1)
  cases a.1 == 1
  · simp only [cond_false]; omega
  · simp only [cond_true]; omega
theorem acts_len : ∀ (r : List A) (l : List Int), (r.foldl actS l).length ≤ l.length + 3 * r.length
  | [], l => by simp
  | a :: r, l => by
    have := acts_len r (actS l a)
    have := actS_len l a
    simp only [List.foldl_cons, List.length_cons]; omega
theorem r8_glob (u : U) (l : List Int) (h : l.length + u.1.length ≤ 10000) : L_ref8_Steps_33_0_0 (l, 0, u) = some (u.1.foldl layS l, u) := by
  have := rg_ref8_Steps_33_0_0 u.2.1 u.2.2.1 u.2.2.2 u.1 l (by omega)
  refine this.trans ?_
  unfold rv_ref8_Steps_33_0_0
  rw [fold_range (g := layS) (fun s r => s.length + r.length ≤ 10000) (fun j s d r h => ?_) u.1 0 l h]
  · rfl
  · rw [List.length_cons] at h
    have := layS_len s d
    refine ⟨?_, by omega⟩
    have e1 := n_ref8_lay s d (by omega)
    simp only [bd_ref8_Steps_33_0_0, G_ref8_lay, e1, optC_some]
def arrS (l : List Int) (d : Int) : List Int := layS (layS l d) (d - 1)
theorem arrS_len (l : List Int) (d : Int) : (arrS l d).length ≤ l.length + 2 := by
  unfold arrS
  have h1 := layS_len l d
  have h2 := layS_len (layS l d) (d - 1)
  omega
theorem r8_arr (u : U) (l : List Int) (hu : ∀ n ∈ u.2.1, 1 ≤ n ∧ n ≤ 16) (h : l.length + 2 * u.2.1.length ≤ 10000) : L_ref8_Steps_33_2_0 (l, 0, u) = some (u.2.1.foldl arrS l, u) := by
  have := rg_ref8_Steps_33_2_0 u.1 u.2.2.1 u.2.2.2 u.2.1 l (by omega)
  refine this.trans ?_
  unfold rv_ref8_Steps_33_2_0
  rw [fold_range (g := arrS) (fun s r => s.length + 2 * r.length ≤ 10000 ∧ ∀ n ∈ r, 1 ≤ n ∧ n ≤ 16) (fun j s d r h => ?_) u.2.1 0 l ⟨h, hu⟩]
  · rfl
  · have h' := h.1
    rw [List.length_cons] at h'
    have h1 := layS_len s d
    have h2 := arrS_len s d
    have hd := h.2 d (by simp)
    refine ⟨?_, by omega, fun n hn => h.2 n (by simp [hn])⟩
    have w : IntKind.i64.wrap (d - 1) = d - 1 := wrap_id (by omega) (by omega)
    have e1 := n_ref8_lay s d (by omega)
    have e2 := n_ref8_lay (layS s d) (d - 1) (by omega)
    simp only [bd_ref8_Steps_33_2_0, G_ref8_lay, w, e1, e2, optC_some]
    rfl
end Go.Proofs.YtmjbedjnojcmfaaGreatDoor.Ex

namespace Go.Proofs.YtmjbedjnojcmfaaGreatDoor.Ex
open Go.Proofs
set_option maxRecDepth 100000
set_option maxHeartbeats 2000000
set_option linter.unusedVariables false
set_option linter.unusedSimpArgs false
noncomputable def bodyA {Y : Type} (s : List Int) (a : A) : Option (List Int ⊕ Y) := bif a.1 == 1 then optC (g_ref8_lay s a.2.2.2.2.2.1) none fun p => optC (g_ref8_lay p (IntKind.i64.wrap (a.2.2.2.2.2.1 - 1))) none fun q => optC (g_ref8_lay q (IntKind.i64.wrap (a.2.2.2.2.2.1 + 1))) none fun r => some (.inl r) else some (.inl s)
theorem bodyA_eq {Y : Type} {s : List Int} {a : A} (h : s.length ≤ 9000) (hf : fitB a.2.2.2.2.2.1 = true) : (bodyA s a : Option (List Int ⊕ Y)) = some (.inl (actS s a)) := by
  have f := fit_iff.1 hf
  have w1 : IntKind.i64.wrap (a.2.2.2.2.2.1 - 1) = a.2.2.2.2.2.1 - 1 := wrap_id (by omega) (by omega)
  have w2 : IntKind.i64.wrap (a.2.2.2.2.2.1 + 1) = a.2.2.2.2.2.1 + 1 := wrap_id (by omega) (by omega)
  have h1 := layS_len s a.2.2.2.2.2.1
  have h2 := layS_len (layS s a.2.2.2.2.2.1) (a.2.2.2.2.2.1 - 1)
  have e1 := n_ref8_lay s a.2.2.2.2.2.1 (by omega)
  have e2 := n_ref8_lay (layS s a.2.2.2.2.2.1) (a.2.2.2.2.2.1 - 1) (by omega)
  have e3 := n_ref8_lay (layS (layS s a.2.2.2.2.2.1) (a.2.2.2.2.2.1 - 1)) (a.2.2.2.2.2.1 + 1) (by omega)
  unfold bodyA actS
  cases a.1 == 1
  · rfl
  · simp only [cond_true, w1, w2, e1, e2, e3, optC_some]
theorem r8_acts (u : U) (c : C) {i : Nat} (hc : u.2.2.2[i]? = some c) (hf : ∀ a ∈ c.2, fitB a.2.2.2.2.2.1 = true) (hn : c.2.length ≤ 60) (l : List Int) (h : l.length ≤ 8000) :
    L_ref8_Steps_33_6_0 (l, (i : Int), 0, u) = some (c.2.foldl actS l, (i : Int), u) := by
  unfold L_ref8_Steps_33_6_0
  have e0 : decide (0 ≤ (i : Int)) = true := decide_eq_true (by omega)
  have := iterO_range0 (step := fun x : X_ref8_Steps_33_6_0 => st_ref8_Steps_33_6_0 x.1 x.2.1 x.2.2.1 x.2.2.2.1 x.2.2.2.2.1 x.2.2.2.2.2.1 x.2.2.2.2.2.2) c.2 (fun j s => (s, (i : Int), (j : Int), u.1, u.2.1, u.2.2.1, u.2.2.2)) (fun _ s a => bodyA s a) (fun s => some (s, (i : Int), u.1, u.2.1, u.2.2.1, u.2.2.2)) ?_ ?_ l (n := FUEL) (by unfold FUEL; omega)
  · refine this.trans ?_
    rw [fold_range (g := actS) (fun s r => s.length + 3 * r.length ≤ 9000 ∧ ∀ a ∈ r, fitB a.2.2.2.2.2.1 = true) (fun j s d r h => ?_) c.2 0 l ⟨by omega, hf⟩]
    have h1 := h.1
    rw [List.length_cons] at h1
    have := actS_len s d
    exact ⟨bodyA_eq (by omega) (h.2 d (by simp)), by omega, fun a ha => h.2 a (by simp [ha])⟩
  · intro j s d hj hd
    show st_ref8_Steps_33_6_0 s (i : Int) (j : Int) u.1 u.2.1 u.2.2.1 u.2.2.2 = _
    have w := wrap_next (i := j) (n := c.2.length) hj (by omega)
    have e1 : decide ((j : Int) < (c.2.length : Int)) = true := decide_eq_true (by omega)
    have e2 : decide (0 ≤ (j : Int)) = true := decide_eq_true (by omega)
    simp only [st_ref8_Steps_33_6_0, e0, e1, e2, cond_true, Int.toNat_natCast, hc, hd, optC_some, w, G_ref8_lay, bodyA]
    cases d.1 == 1
    · rfl
    · simp only [cond_true]
      cases g_ref8_lay s d.2.2.2.2.2.1 with
      | none => rfl
      | some p =>
        simp only [optC_some]
        cases g_ref8_lay p (IntKind.i64.wrap (d.2.2.2.2.2.1 - 1)) with
        | none => rfl
        | some q =>
          simp only [optC_some]
          cases g_ref8_lay q (IntKind.i64.wrap (d.2.2.2.2.2.1 + 1)) <;> rfl
  · intro s
    show st_ref8_Steps_33_6_0 s (i : Int) (c.2.length : Int) u.1 u.2.1 u.2.2.1 u.2.2.2 = _
    have e1 : decide ((c.2.length : Int) < (c.2.length : Int)) = false := decide_eq_false (by omega)
    simp only [st_ref8_Steps_33_6_0, e0, e1, cond_true, cond_false, Int.toNat_natCast, hc, optC_some]
    rfl
end Go.Proofs.YtmjbedjnojcmfaaGreatDoor.Ex

namespace Go.Proofs.YtmjbedjnojcmfaaGreatDoor.Ex
open Go.Proofs
set_option maxRecDepth 100000
set_option maxHeartbeats 2000000
set_option linter.unusedVariables false
set_option linter.unusedSimpArgs false
def thrS (l : List Int) (c : C) : List Int := c.2.foldl actS l
theorem r8_thr (u : U) (hu : unitOK u) (l : List Int) (h : l.length ≤ 7000) : L_ref8_Steps_33_4_0 (l, 0, u) = some (u.2.2.2.foldl thrS l) := by
  have ht := hu.t
  have go : ∀ (r : List C) (i : Nat) (s : List Int) (k : Nat), u.2.2.2.drop i = r → i + r.length = u.2.2.2.length → s.length + 180 * r.length ≤ 8000 →
      iterO (fun x : X_ref8_Steps_33_4_0 => st_ref8_Steps_33_4_0 x.1 x.2.1 x.2.2.1 x.2.2.2.1 x.2.2.2.2.1 x.2.2.2.2.2) (k + r.length + 1) (s, (i : Int), u) = some (r.foldl thrS s) := by
    intro r
    induction r with
    | nil =>
      intro i s k hd hi hs
      have e : decide ((i : Int) < (u.2.2.2.length : Int)) = false := decide_eq_false (by simp at hi; omega)
      simp only [iterO, st_ref8_Steps_33_4_0, e, cond_false]
      rfl
    | cons c r ih =>
      intro i s k hd hi hs
      rw [List.length_cons] at hi hs ⊢
      have hc : u.2.2.2[i]? = some c := by
        have := congrArg (fun q => q[0]?) hd
        simpa using this
      have ho := hu.ts c (List.mem_of_getElem? hc)
      have e : decide ((i : Int) < (u.2.2.2.length : Int)) = true := decide_eq_true (by omega)
      have w := wrap_next (i := i) (n := u.2.2.2.length) (by omega) (by omega)
      have a1 := r8_acts u c hc (fun a ha => (ho.a a ha).n) ho.n.2 s (by omega)
      have a2 := acts_len c.2 s
      have := ho.n.2
      rw [show k + (r.length + 1) + 1 = (k + r.length + 1) + 1 by omega, iterO]
      have a1' : L_ref8_Steps_33_6_0 (s, (i : Int), 0, u.1, u.2.1, u.2.2.1, u.2.2.2) = some (c.2.foldl actS s, (i : Int), u) := a1
      simp only [st_ref8_Steps_33_4_0, e, cond_true, a1', optC_some, w]
      exact ih (i + 1) (thrS s c) k (by rw [← List.drop_drop, hd]; rfl) (by omega) (by show (c.2.foldl actS s).length + _ ≤ _; omega)
  unfold L_ref8_Steps_33_4_0
  have := go u.2.2.2 0 l (FUEL - u.2.2.2.length - 1) rfl (by simp) (by omega)
  rw [show FUEL - u.2.2.2.length - 1 + u.2.2.2.length + 1 = FUEL by unfold FUEL; omega] at this
  exact this
def stepsV (u : U) : List Int := u.2.2.2.foldl thrS (u.2.1.foldl arrS (u.1.foldl layS [-1, 0, 1]))
theorem arrs_len : ∀ (r l : List Int), (r.foldl arrS l).length ≤ l.length + 2 * r.length
  | [], l => by simp
  | a :: r, l => by
    have := arrs_len r (arrS l a)
    have := arrS_len l a
    simp only [List.foldl_cons, List.length_cons]; omega
theorem n_ref8_Steps (u : U) (hu : unitOK u) : g_ref8_Steps u = some (stepsV u) := by
  have g1 := hu.g
  have g2 := hu.a
  have l1 := lays_len u.1 [-1, 0, 1]
  have l2 := arrs_len u.2.1 (u.1.foldl layS [-1, 0, 1])
  have l3 : ([-1, 0, 1] : List Int).length = 3 := rfl
  unfold g_ref8_Steps
  rw [r8_glob u [-1, 0, 1] (by omega)]
  simp only [optC_some]
  rw [r8_arr u _ (fun n hn => hu.ars n hn) (by omega)]
  simp only [optC_some]
  rw [r8_thr u hu _ (by omega)]
  rfl
end Go.Proofs.YtmjbedjnojcmfaaGreatDoor.Ex

namespace Go.Proofs.YtmjbedjnojcmfaaGreatDoor.Ex
open Go.Proofs
set_option linter.unusedVariables false
def numA (a : A) : List Int := bif a.1 == 1 then [a.2.2.2.2.2.1, a.2.2.2.2.2.1 - 1, a.2.2.2.2.2.1 + 1] else []
def numC (c : C) : List Int := c.2.flatMap numA
def numD (d : Int) : List Int := [d, d - 1]
def allN (u : U) : List Int := u.1 ++ (u.2.1.flatMap numD ++ u.2.2.2.flatMap numC)
theorem fold_flat {α : Type} {f : List Int → α → List Int} {g : α → List Int} (h : ∀ l a, f l a = (g a).foldl layS l) : ∀ (r : List α) (l : List Int), r.foldl f l = (r.flatMap g).foldl layS l
  | [], l => rfl
  | a :: r, l => by rw [List.foldl_cons, h, fold_flat h r, List.flatMap_cons, List.foldl_append]
theorem steps_flat (u : U) : stepsV u = (allN u).foldl layS [-1, 0, 1] := by
  have h1 : ∀ (l : List Int) (a : A), actS l a = (numA a).foldl layS l := fun l a => by
    unfold actS numA
    cases a.1 == 1 <;> rfl
  have h2 : ∀ (l : List Int) (c : C), thrS l c = (numC c).foldl layS l := fun l c => fold_flat h1 c.2 l
  unfold stepsV allN
  rw [List.foldl_append, List.foldl_append, fold_flat h2, fold_flat (f := arrS) (g := numD) fun l d => rfl]
theorem steps_rise (u : U) : (stepsV u).Pairwise (· < ·) := by
  rw [steps_flat]
  exact lays_rise _ (by simp)
theorem steps_mem (u : U) (x : Int) : x ∈ stepsV u ↔ (x ∈ allN u ∧ fitB x = true) ∨ x ∈ ([-1, 0, 1] : List Int) := by rw [steps_flat, lays_mem]
end Go.Proofs.YtmjbedjnojcmfaaGreatDoor.Ex

namespace Go.Proofs.YtmjbedjnojcmfaaGreatDoor.Ex
open Go.Proofs Go.Proofs.YtmjbedjnojcmfaaGreatDoor
set_option maxRecDepth 100000
set_option maxHeartbeats 2000000
set_option linter.unusedVariables false
set_option linter.unusedSimpArgs false
abbrev ty_78_0 : Type := ((List Int) × Int × Int × (List Int) × (List Int) × Int × (List C) × (List Int))
def ash_cfg_Steps : List Sh := [.dat tU]
def kp_cfg_Steps_29_0 : Nat → List Nat := fun c => bif c.beq 0 then [1, 3, 15, 16, 17] else [1, 3]
def kp_cfg_Steps_29_4 : Nat → List Nat := fun c => bif c.beq 0 then [3, 29, 30, 31, 36, 37, 38] else [3, 29, 30, 31]
def kp_cfg_Steps_29_2 : Nat → List Nat := fun c => bif c.beq 0 then [3, 29, 30, 31] else [3]
def kp_cfg_Steps_106_0 : Nat → List Nat := fun c => bif c.beq 0 then [0, 1, 7, 8] else [4]
def kp_cfg_Steps_69_0 : Nat → List Nat := fun c => bif c.beq 0 then [0, 1, 5, 6] else [0, 5]
noncomputable def sp_cfg_Steps : List Con := [⟨71, con_slices_Sort_int, snd_slices_Sort_int⟩, ⟨72, con_slices_Compact_int, snd_slices_Compact_int⟩, ⟨55, con_num_Fits, snd_num_Fits⟩]
def s_cfg_Steps_29_0_0 : StS := ⟨[(1, .ptr 0 0), (3, .row 1), (15, .sl (.int .i64)), (16, .int .i64), (17, .int .i64)], [(0, .box [.sl (.int .i64), .sl (.int .i64), .int .i64, .sl tC]), (1, .row (.int .i64))], 2⟩
def x_cfg_Steps_29_0_0_0 : StS := ⟨[(1, .ptr 0 0), (3, .row 1)], [(0, .box [.sl (.int .i64), .sl (.int .i64), .int .i64, .sl tC]), (1, .row (.int .i64))], 2⟩
abbrev X_cfg_Steps_29_0_0 := ty_78_0
def fl_cfg_Steps_29_0_0 (d : StD s_cfg_Steps_29_0_0) : X_cfg_Steps_29_0_0 := (d.1.2.2.1, d.1.2.2.2.1, d.1.2.2.2.2.1, d.2.1.1, d.2.1.2.1, d.2.1.2.2.1, d.2.1.2.2.2.1, d.2.2.1)
def un_cfg_Steps_29_0_0 (x : X_cfg_Steps_29_0_0) : StD s_cfg_Steps_29_0_0 := (((), (), x.1, x.2.1, x.2.2.1, ()), ((x.2.2.2.1, x.2.2.2.2.1, x.2.2.2.2.2.1, x.2.2.2.2.2.2.1, ()), x.2.2.2.2.2.2.2, ()))
abbrev X_cfg_Steps_29_0_0_0 := ((List Int) × (List Int) × Int × (List C) × (List Int))
def fl_cfg_Steps_29_0_0_0 (d : StD x_cfg_Steps_29_0_0_0) : X_cfg_Steps_29_0_0_0 := (d.2.1.1, d.2.1.2.1, d.2.1.2.2.1, d.2.1.2.2.2.1, d.2.2.1)
def un_cfg_Steps_29_0_0_0 (x : X_cfg_Steps_29_0_0_0) : StD x_cfg_Steps_29_0_0_0 := (((), (), ()), ((x.1, x.2.1, x.2.2.1, x.2.2.2.1, ()), x.2.2.2.2, ()))
noncomputable def st_cfg_Steps_29_0_0 (s15 : (List Int)) (s16 : Int) (s17 : Int) (b0 : (List Int)) (b0_1 : (List Int)) (b0_2 : Int) (b0_3 : (List C)) (b1 : (List Int)) : Option (ty_78_0 ⊕ ((List Int) × (List Int) × Int × (List C) × (List Int))) :=
  bif decide (s17 < s16) then
 bif decide (0 ≤ s17) then
 optC s15[s17.toNat]? none fun d14 ↦
 bif decide ((b1.length + [d14, Go.IntKind.i64.wrap (d14 - 1)].length + 1) * 8 ≤ lim) then
 some (Sum.inl (s15, s16, Go.IntKind.i64.wrap (s17 + 1), b0, b0_1, b0_2, b0_3, b1 ++ [d14, Go.IntKind.i64.wrap (d14 - 1)]))
 else none
 else none
 else some (Sum.inr (b0, b0_1, b0_2, b0_3, b1))
noncomputable def sx_cfg_Steps_29_0_0 (x : X_cfg_Steps_29_0_0) : Option (X_cfg_Steps_29_0_0 ⊕ X_cfg_Steps_29_0_0_0) := st_cfg_Steps_29_0_0 x.1 x.2.1 x.2.2.1 x.2.2.2.1 x.2.2.2.2.1 x.2.2.2.2.2.1 x.2.2.2.2.2.2.1 x.2.2.2.2.2.2.2
theorem rn_cfg_Steps_29_0_0 (x : X_cfg_Steps_29_0_0) : rdX (cxU sp_cfg_Steps [] 40 1048576) keeps 8 ⟨29, 64, keeps 29, 0⟩ 0 (bodyX 29 0) 0 kp_cfg_Steps_29_0 (sT s_cfg_Steps_29_0_0 (un_cfg_Steps_29_0_0 x)) (sH s_cfg_Steps_29_0_0 (un_cfg_Steps_29_0_0 x)) (rdO (fun T h => (rdS s_cfg_Steps_29_0_0 T h).map fl_cfg_Steps_29_0_0) (getE 2 x_cfg_Steps_29_0_0_0 fl_cfg_Steps_29_0_0_0)) = sx_cfg_Steps_29_0_0 x := by kernel_rfl
noncomputable def L_cfg_Steps_29_0_0 (x : X_cfg_Steps_29_0_0) : Option X_cfg_Steps_29_0_0_0 := iterO (fun x => st_cfg_Steps_29_0_0 x.1 x.2.1 x.2.2.1 x.2.2.2.1 x.2.2.2.2.1 x.2.2.2.2.2.1 x.2.2.2.2.2.2.1 x.2.2.2.2.2.2.2) FUEL x
noncomputable def q_cfg_Steps_29_0 : Nat → Tm → Prog (Nat × Tm) := (varP 0 (fun T h => (rdS s_cfg_Steps_29_0_0 T h).map fl_cfg_Steps_29_0_0) L_cfg_Steps_29_0_0 (altE 2 x_cfg_Steps_29_0_0_0 un_cfg_Steps_29_0_0_0) (fun _ _ => .fail))
noncomputable def lc_cfg_Steps_29_0 : Lpc := ⟨29, 0, 64, (fun base T => .norm base (kp_cfg_Steps_29_0 0) T (q_cfg_Steps_29_0 base)), by kernel_rfl, by kernel_rfl, (loopU sp_cfg_Steps [] 40 1048576 8 (keep := kp_cfg_Steps_29_0) (q := q_cfg_Steps_29_0) (by kernel_rfl) (varX_ok (s := s_cfg_Steps_29_0_0) (un := un_cfg_Steps_29_0_0) (by rfl) (fun _ => rfl) (getE_ok (s := x_cfg_Steps_29_0_0_0) (un := un_cfg_Steps_29_0_0_0) (by rfl) (fun _ => rfl)) (step := sx_cfg_Steps_29_0_0) rn_cfg_Steps_29_0_0 (fun _ _ e => ⟨_, e⟩) (altE_ok 2 x_cfg_Steps_29_0_0_0 un_cfg_Steps_29_0_0_0) (VarOk.fail _ _)))⟩
noncomputable abbrev cx_cfg_Steps_29_4 := cxU sp_cfg_Steps [lc_cfg_Steps_29_0] 40 1048576
def s_cfg_Steps_29_4_0 : StS := ⟨[(3, .row 0), (29, .sl tC), (30, .int .i64), (31, .int .i64), (36, .sl tA), (37, .int .i64), (38, .int .i64)], [(0, .row (.int .i64))], 1⟩
def x_cfg_Steps_29_4_0_0 : StS := ⟨[(3, .row 0), (29, .sl tC), (30, .int .i64), (31, .int .i64)], [(0, .row (.int .i64))], 1⟩
abbrev X_cfg_Steps_29_4_0 := ((List C) × Int × Int × (List A) × Int × Int × (List Int))
def fl_cfg_Steps_29_4_0 (d : StD s_cfg_Steps_29_4_0) : X_cfg_Steps_29_4_0 := (d.1.2.1, d.1.2.2.1, d.1.2.2.2.1, d.1.2.2.2.2.1, d.1.2.2.2.2.2.1, d.1.2.2.2.2.2.2.1, d.2.1)
def un_cfg_Steps_29_4_0 (x : X_cfg_Steps_29_4_0) : StD s_cfg_Steps_29_4_0 := (((), x.1, x.2.1, x.2.2.1, x.2.2.2.1, x.2.2.2.2.1, x.2.2.2.2.2.1, ()), (x.2.2.2.2.2.2, ()))
abbrev X_cfg_Steps_29_4_0_0 := ((List C) × Int × Int × (List Int))
def fl_cfg_Steps_29_4_0_0 (d : StD x_cfg_Steps_29_4_0_0) : X_cfg_Steps_29_4_0_0 := (d.1.2.1, d.1.2.2.1, d.1.2.2.2.1, d.2.1)
def un_cfg_Steps_29_4_0_0 (x : X_cfg_Steps_29_4_0_0) : StD x_cfg_Steps_29_4_0_0 := (((), x.1, x.2.1, x.2.2.1, ()), (x.2.2.2, ()))
noncomputable def st_cfg_Steps_29_4_0 (s29 : (List C)) (s30 : Int) (s31 : Int) (s36 : (List A)) (s37 : Int) (s38 : Int) (b0 : (List Int)) : Option (((List C) × Int × Int × (List A) × Int × Int × (List Int)) ⊕ ((List C) × Int × Int × (List Int))) :=
  bif decide (s38 < s37) then
 bif decide (0 ≤ s38) then
 optC s36[s38.toNat]? none fun d13 ↦
 bif d13.1 == 1 then
 bif
 decide
 ((b0.length + [Go.IntKind.i64.wrap (d13.2.2.2.2.2.1 - 1), d13.2.2.2.2.2.1, Go.IntKind.i64.wrap (d13.2.2.2.2.2.1 + 1)].length + 1) * 8 ≤
 lim) then
 some
 (Sum.inl
 (s29, s30, s31, s36, s37, Go.IntKind.i64.wrap (s38 + 1),
 b0 ++ [Go.IntKind.i64.wrap (d13.2.2.2.2.2.1 - 1), d13.2.2.2.2.2.1, Go.IntKind.i64.wrap (d13.2.2.2.2.2.1 + 1)]))
 else none
 else some (Sum.inl (s29, s30, s31, s36, s37, Go.IntKind.i64.wrap (s38 + 1), b0))
 else none
 else some (Sum.inr (s29, s30, s31, b0))
noncomputable def sx_cfg_Steps_29_4_0 (x : X_cfg_Steps_29_4_0) : Option (X_cfg_Steps_29_4_0 ⊕ X_cfg_Steps_29_4_0_0) := st_cfg_Steps_29_4_0 x.1 x.2.1 x.2.2.1 x.2.2.2.1 x.2.2.2.2.1 x.2.2.2.2.2.1 x.2.2.2.2.2.2
theorem rn_cfg_Steps_29_4_0 (x : X_cfg_Steps_29_4_0) : rdX cx_cfg_Steps_29_4 keeps 8 ⟨29, 64, keeps 29, 0⟩ 4 (bodyX 29 4) 0 kp_cfg_Steps_29_4 (sT s_cfg_Steps_29_4_0 (un_cfg_Steps_29_4_0 x)) (sH s_cfg_Steps_29_4_0 (un_cfg_Steps_29_4_0 x)) (rdO (fun T h => (rdS s_cfg_Steps_29_4_0 T h).map fl_cfg_Steps_29_4_0) (getE 6 x_cfg_Steps_29_4_0_0 fl_cfg_Steps_29_4_0_0)) = sx_cfg_Steps_29_4_0 x := by kernel_rfl
noncomputable def L_cfg_Steps_29_4_0 (x : X_cfg_Steps_29_4_0) : Option X_cfg_Steps_29_4_0_0 := iterO (fun x => st_cfg_Steps_29_4_0 x.1 x.2.1 x.2.2.1 x.2.2.2.1 x.2.2.2.2.1 x.2.2.2.2.2.1 x.2.2.2.2.2.2) FUEL x
noncomputable def q_cfg_Steps_29_4 : Nat → Tm → Prog (Nat × Tm) := (varP 0 (fun T h => (rdS s_cfg_Steps_29_4_0 T h).map fl_cfg_Steps_29_4_0) L_cfg_Steps_29_4_0 (altE 6 x_cfg_Steps_29_4_0_0 un_cfg_Steps_29_4_0_0) (fun _ _ => .fail))
noncomputable def lc_cfg_Steps_29_4 : Lpc := ⟨29, 4, 64, (fun base T => .norm base (kp_cfg_Steps_29_4 0) T (q_cfg_Steps_29_4 base)), by kernel_rfl, by kernel_rfl, (loopU sp_cfg_Steps [lc_cfg_Steps_29_0] 40 1048576 8 (keep := kp_cfg_Steps_29_4) (q := q_cfg_Steps_29_4) (by kernel_rfl) (varX_ok (s := s_cfg_Steps_29_4_0) (un := un_cfg_Steps_29_4_0) (by rfl) (fun _ => rfl) (getE_ok (s := x_cfg_Steps_29_4_0_0) (un := un_cfg_Steps_29_4_0_0) (by rfl) (fun _ => rfl)) (step := sx_cfg_Steps_29_4_0) rn_cfg_Steps_29_4_0 (fun _ _ e => ⟨_, e⟩) (altE_ok 6 x_cfg_Steps_29_4_0_0 un_cfg_Steps_29_4_0_0) (VarOk.fail _ _)))⟩
noncomputable abbrev cx_cfg_Steps_29_2 := cxU sp_cfg_Steps [lc_cfg_Steps_29_0, lc_cfg_Steps_29_4] 40 1048576
def s_cfg_Steps_29_2_0 : StS := ⟨[(3, .row 0), (29, .sl tC), (30, .int .i64), (31, .int .i64)], [(0, .row (.int .i64))], 1⟩
def x_cfg_Steps_29_2_0_0 : StS := ⟨[(3, .row 0)], [(0, .row (.int .i64))], 1⟩
abbrev X_cfg_Steps_29_2_0 := ((List C) × Int × Int × (List Int))
def fl_cfg_Steps_29_2_0 (d : StD s_cfg_Steps_29_2_0) : X_cfg_Steps_29_2_0 := (d.1.2.1, d.1.2.2.1, d.1.2.2.2.1, d.2.1)
def un_cfg_Steps_29_2_0 (x : X_cfg_Steps_29_2_0) : StD s_cfg_Steps_29_2_0 := (((), x.1, x.2.1, x.2.2.1, ()), (x.2.2.2, ()))
abbrev X_cfg_Steps_29_2_0_0 := (List Int)
def fl_cfg_Steps_29_2_0_0 (d : StD x_cfg_Steps_29_2_0_0) : X_cfg_Steps_29_2_0_0 := (d.2.1)
def un_cfg_Steps_29_2_0_0 (x : X_cfg_Steps_29_2_0_0) : StD x_cfg_Steps_29_2_0_0 := (((), ()), (x, ()))
noncomputable def st_cfg_Steps_29_2_0 (s29 : (List C)) (s30 : Int) (s31 : Int) (b0 : (List Int)) : Option (((List C) × Int × Int × (List Int)) ⊕ (List Int)) :=
  bif decide (s31 < s30) then
 bif decide (0 ≤ s31) then
 optC s29[s31.toNat]? none fun d10 ↦
 optC (L_cfg_Steps_29_4_0 (s29, s30, s31, d10.2, (↑(List.length d10.2) : Int), 0, b0)) none fun d11 ↦
 some (Sum.inl (d11.1, d11.2.1, Go.IntKind.i64.wrap (d11.2.2.1 + 1), d11.2.2.2))
 else none
 else some (Sum.inr b0)
noncomputable def sx_cfg_Steps_29_2_0 (x : X_cfg_Steps_29_2_0) : Option (X_cfg_Steps_29_2_0 ⊕ X_cfg_Steps_29_2_0_0) := st_cfg_Steps_29_2_0 x.1 x.2.1 x.2.2.1 x.2.2.2
theorem rn_cfg_Steps_29_2_0 (x : X_cfg_Steps_29_2_0) : rdX cx_cfg_Steps_29_2 keeps 8 ⟨29, 64, keeps 29, 0⟩ 2 (bodyX 29 2) 0 kp_cfg_Steps_29_2 (sT s_cfg_Steps_29_2_0 (un_cfg_Steps_29_2_0 x)) (sH s_cfg_Steps_29_2_0 (un_cfg_Steps_29_2_0 x)) (rdO (fun T h => (rdS s_cfg_Steps_29_2_0 T h).map fl_cfg_Steps_29_2_0) (getE 4 x_cfg_Steps_29_2_0_0 fl_cfg_Steps_29_2_0_0)) = sx_cfg_Steps_29_2_0 x := by kernel_rfl
noncomputable def L_cfg_Steps_29_2_0 (x : X_cfg_Steps_29_2_0) : Option X_cfg_Steps_29_2_0_0 := iterO (fun x => st_cfg_Steps_29_2_0 x.1 x.2.1 x.2.2.1 x.2.2.2) FUEL x
noncomputable def q_cfg_Steps_29_2 : Nat → Tm → Prog (Nat × Tm) := (varP 0 (fun T h => (rdS s_cfg_Steps_29_2_0 T h).map fl_cfg_Steps_29_2_0) L_cfg_Steps_29_2_0 (altE 4 x_cfg_Steps_29_2_0_0 un_cfg_Steps_29_2_0_0) (fun _ _ => .fail))
noncomputable def lc_cfg_Steps_29_2 : Lpc := ⟨29, 2, 64, (fun base T => .norm base (kp_cfg_Steps_29_2 0) T (q_cfg_Steps_29_2 base)), by kernel_rfl, by kernel_rfl, (loopU sp_cfg_Steps [lc_cfg_Steps_29_0, lc_cfg_Steps_29_4] 40 1048576 8 (keep := kp_cfg_Steps_29_2) (q := q_cfg_Steps_29_2) (by kernel_rfl) (varX_ok (s := s_cfg_Steps_29_2_0) (un := un_cfg_Steps_29_2_0) (by rfl) (fun _ => rfl) (getE_ok (s := x_cfg_Steps_29_2_0_0) (un := un_cfg_Steps_29_2_0_0) (by rfl) (fun _ => rfl)) (step := sx_cfg_Steps_29_2_0) rn_cfg_Steps_29_2_0 (fun _ _ e => ⟨_, e⟩) (altE_ok 4 x_cfg_Steps_29_2_0_0 un_cfg_Steps_29_2_0_0) (VarOk.fail _ _)))⟩
noncomputable abbrev cx_cfg_Steps_106_0 := cxU sp_cfg_Steps [lc_cfg_Steps_29_0, lc_cfg_Steps_29_4, lc_cfg_Steps_29_2] 40 1048576
def s_cfg_Steps_106_0_0 : StS := ⟨[(0, .row 0), (1, .clo 70 [] []), (7, .int .i64), (8, .int .i64)], [(0, .row (.int .i64))], 1⟩
def x_cfg_Steps_106_0_0_0 : StS := ⟨[(4, .undef)], [(0, .row (.int .i64))], 1⟩
def x_cfg_Steps_106_0_0_1 : StS := ⟨[(4, .int .i64)], [(0, .row (.int .i64))], 1⟩
abbrev X_cfg_Steps_106_0_0 := (Int × Int × (List Int))
def fl_cfg_Steps_106_0_0 (d : StD s_cfg_Steps_106_0_0) : X_cfg_Steps_106_0_0 := (d.1.2.2.1, d.1.2.2.2.1, d.2.1)
def un_cfg_Steps_106_0_0 (x : X_cfg_Steps_106_0_0) : StD s_cfg_Steps_106_0_0 := (((), ((), ()), x.1, x.2.1, ()), (x.2.2, ()))
abbrev X_cfg_Steps_106_0_0_0 := (List Int)
def fl_cfg_Steps_106_0_0_0 (d : StD x_cfg_Steps_106_0_0_0) : X_cfg_Steps_106_0_0_0 := (d.2.1)
def un_cfg_Steps_106_0_0_0 (x : X_cfg_Steps_106_0_0_0) : StD x_cfg_Steps_106_0_0_0 := (((), ()), (x, ()))
abbrev X_cfg_Steps_106_0_0_1 := (Int × (List Int))
def fl_cfg_Steps_106_0_0_1 (d : StD x_cfg_Steps_106_0_0_1) : X_cfg_Steps_106_0_0_1 := (d.1.1, d.2.1)
def un_cfg_Steps_106_0_0_1 (x : X_cfg_Steps_106_0_0_1) : StD x_cfg_Steps_106_0_0_1 := ((x.1, ()), (x.2, ()))
noncomputable def st_cfg_Steps_106_0_0 (s7 : Int) (s8 : Int) (b0 : (List Int)) : Option ((Int × Int × (List Int)) ⊕ ((List Int) ⊕ (Int × (List Int)))) :=
  bif decide (s8 < s7) then
 bif decide (0 ≤ s8) then
 optC b0[s8.toNat]? none fun d9 ↦
 optC b0[s8.toNat]? none fun d10 ↦
 optC (G_num_Fits ([d10], ())) none fun d11 ↦ bif !d11 then some (Sum.inr (Sum.inr (s8, b0))) else some (Sum.inl (s7, Go.IntKind.i64.wrap (s8 + 1), b0))
 else none
 else some (Sum.inr (Sum.inl b0))
noncomputable def sx_cfg_Steps_106_0_0 (x : X_cfg_Steps_106_0_0) : Option (X_cfg_Steps_106_0_0 ⊕ (X_cfg_Steps_106_0_0_0 ⊕ X_cfg_Steps_106_0_0_1)) := st_cfg_Steps_106_0_0 x.1 x.2.1 x.2.2
theorem rn_cfg_Steps_106_0_0 (x : X_cfg_Steps_106_0_0) : rdX cx_cfg_Steps_106_0 keeps 8 ⟨106, 19, keeps 106, 1⟩ 0 (bodyX 106 0) 1 kp_cfg_Steps_106_0 (sT s_cfg_Steps_106_0_0 (un_cfg_Steps_106_0_0 x)) (sH s_cfg_Steps_106_0_0 (un_cfg_Steps_106_0_0 x)) (rdO (fun T h => (rdS s_cfg_Steps_106_0_0 T h).map fl_cfg_Steps_106_0_0) (getOr (getE 2 x_cfg_Steps_106_0_0_0 fl_cfg_Steps_106_0_0_0) (getE 1 x_cfg_Steps_106_0_0_1 fl_cfg_Steps_106_0_0_1))) = sx_cfg_Steps_106_0_0 x := by kernel_rfl
noncomputable def L_cfg_Steps_106_0_0 (x : X_cfg_Steps_106_0_0) : Option (X_cfg_Steps_106_0_0_0 ⊕ X_cfg_Steps_106_0_0_1) := iterO (fun x => st_cfg_Steps_106_0_0 x.1 x.2.1 x.2.2) FUEL x
noncomputable def q_cfg_Steps_106_0 : Nat → Tm → Prog (Nat × Tm) := (varP 1 (fun T h => (rdS s_cfg_Steps_106_0_0 T h).map fl_cfg_Steps_106_0_0) L_cfg_Steps_106_0_0 (fun y => .alt y (altE 2 x_cfg_Steps_106_0_0_0 un_cfg_Steps_106_0_0_0) (altE 1 x_cfg_Steps_106_0_0_1 un_cfg_Steps_106_0_0_1)) (fun _ _ => .fail))
noncomputable def lc_cfg_Steps_106_0 : Lpc := ⟨106, 0, 19, (fun base T => .norm base (kp_cfg_Steps_106_0 0) T (q_cfg_Steps_106_0 base)), by kernel_rfl, by kernel_rfl, (loopU sp_cfg_Steps [lc_cfg_Steps_29_0, lc_cfg_Steps_29_4, lc_cfg_Steps_29_2] 40 1048576 8 (keep := kp_cfg_Steps_106_0) (q := q_cfg_Steps_106_0) (by kernel_rfl) (varX_ok (s := s_cfg_Steps_106_0_0) (un := un_cfg_Steps_106_0_0) (by rfl) (fun _ => rfl) (getOr_ok (getE_ok (s := x_cfg_Steps_106_0_0_0) (un := un_cfg_Steps_106_0_0_0) (by rfl) (fun _ => rfl)) (getE_ok (s := x_cfg_Steps_106_0_0_1) (un := un_cfg_Steps_106_0_0_1) (by rfl) (fun _ => rfl))) (step := sx_cfg_Steps_106_0_0) rn_cfg_Steps_106_0_0 (fun _ _ e => ⟨_, e⟩) (altOr_ok (altE_ok 2 x_cfg_Steps_106_0_0_0 un_cfg_Steps_106_0_0_0) (altE_ok 1 x_cfg_Steps_106_0_0_1 un_cfg_Steps_106_0_0_1)) (VarOk.fail _ _)))⟩
noncomputable abbrev cx_cfg_Steps_69_0 := cxU sp_cfg_Steps [lc_cfg_Steps_29_0, lc_cfg_Steps_29_4, lc_cfg_Steps_29_2, lc_cfg_Steps_106_0] 40 1048576
def s_cfg_Steps_69_0_0 : StS := ⟨[(0, .row 0), (1, .clo 70 [] []), (5, .int .i64), (6, .int .i64)], [(0, .row (.int .i64))], 1⟩
def x_cfg_Steps_69_0_0_0 : StS := ⟨[(0, .row 0), (5, .int .i64)], [(0, .row (.int .i64))], 1⟩
abbrev X_cfg_Steps_69_0_0 := (Int × Int × (List Int))
def fl_cfg_Steps_69_0_0 (d : StD s_cfg_Steps_69_0_0) : X_cfg_Steps_69_0_0 := (d.1.2.2.1, d.1.2.2.2.1, d.2.1)
def un_cfg_Steps_69_0_0 (x : X_cfg_Steps_69_0_0) : StD s_cfg_Steps_69_0_0 := (((), ((), ()), x.1, x.2.1, ()), (x.2.2, ()))
abbrev X_cfg_Steps_69_0_0_0 := (Int × (List Int))
def fl_cfg_Steps_69_0_0_0 (d : StD x_cfg_Steps_69_0_0_0) : X_cfg_Steps_69_0_0_0 := (d.1.2.1, d.2.1)
def un_cfg_Steps_69_0_0_0 (x : X_cfg_Steps_69_0_0_0) : StD x_cfg_Steps_69_0_0_0 := (((), x.1, ()), (x.2, ()))
noncomputable def st_cfg_Steps_69_0_0 (s5 : Int) (s6 : Int) (b0 : (List Int)) : Option ((Int × Int × (List Int)) ⊕ (Int × (List Int))) :=
  bif decide (s6 < (↑b0.length : Int)) then
 bif decide (0 ≤ s6) then
 optC b0[s6.toNat]? none fun d9 ↦
 optC b0[s6.toNat]? none fun d10 ↦
 optC (G_num_Fits ([d10], ())) none fun d11 ↦
 bif !!d11 then
 bif decide (0 ≤ s5) then
 optC b0[s5.toNat]? none fun d12 ↦
 optC b0[s5.toNat]? none fun d13 ↦ some (Sum.inl (Go.IntKind.i64.wrap (s5 + 1), Go.IntKind.i64.wrap (s6 + 1), b0.set s5.toNat d10))
 else none
 else some (Sum.inl (s5, Go.IntKind.i64.wrap (s6 + 1), b0))
 else none
 else some (Sum.inr (s5, b0))
noncomputable def sx_cfg_Steps_69_0_0 (x : X_cfg_Steps_69_0_0) : Option (X_cfg_Steps_69_0_0 ⊕ X_cfg_Steps_69_0_0_0) := st_cfg_Steps_69_0_0 x.1 x.2.1 x.2.2
theorem rn_cfg_Steps_69_0_0 (x : X_cfg_Steps_69_0_0) : rdX cx_cfg_Steps_69_0 keeps 8 ⟨69, 42, keeps 69, 1⟩ 0 (bodyX 69 0) 1 kp_cfg_Steps_69_0 (sT s_cfg_Steps_69_0_0 (un_cfg_Steps_69_0_0 x)) (sH s_cfg_Steps_69_0_0 (un_cfg_Steps_69_0_0 x)) (rdO (fun T h => (rdS s_cfg_Steps_69_0_0 T h).map fl_cfg_Steps_69_0_0) (getE 2 x_cfg_Steps_69_0_0_0 fl_cfg_Steps_69_0_0_0)) = sx_cfg_Steps_69_0_0 x := by kernel_rfl
noncomputable def L_cfg_Steps_69_0_0 (x : X_cfg_Steps_69_0_0) : Option X_cfg_Steps_69_0_0_0 := iterO (fun x => st_cfg_Steps_69_0_0 x.1 x.2.1 x.2.2) FUEL x
noncomputable def q_cfg_Steps_69_0 : Nat → Tm → Prog (Nat × Tm) := (varP 1 (fun T h => (rdS s_cfg_Steps_69_0_0 T h).map fl_cfg_Steps_69_0_0) L_cfg_Steps_69_0_0 (altE 2 x_cfg_Steps_69_0_0_0 un_cfg_Steps_69_0_0_0) (fun _ _ => .fail))
noncomputable def lc_cfg_Steps_69_0 : Lpc := ⟨69, 0, 42, (fun base T => .norm base (kp_cfg_Steps_69_0 0) T (q_cfg_Steps_69_0 base)), by kernel_rfl, by kernel_rfl, (loopU sp_cfg_Steps [lc_cfg_Steps_29_0, lc_cfg_Steps_29_4, lc_cfg_Steps_29_2, lc_cfg_Steps_106_0] 40 1048576 8 (keep := kp_cfg_Steps_69_0) (q := q_cfg_Steps_69_0) (by kernel_rfl) (varX_ok (s := s_cfg_Steps_69_0_0) (un := un_cfg_Steps_69_0_0) (by rfl) (fun _ => rfl) (getE_ok (s := x_cfg_Steps_69_0_0_0) (un := un_cfg_Steps_69_0_0_0) (by rfl) (fun _ => rfl)) (step := sx_cfg_Steps_69_0_0) rn_cfg_Steps_69_0_0 (fun _ _ e => ⟨_, e⟩) (altE_ok 2 x_cfg_Steps_69_0_0_0 un_cfg_Steps_69_0_0_0) (VarOk.fail _ _)))⟩
noncomputable def g_cfg_Steps (a0 : U) : Option (List Int) :=
  bif decide (([-1, 0, 1].length + List.length a0.1 + 1) * 8 ≤ lim) then
 optC (L_cfg_Steps_29_0_0 (a0.2.1, (↑(List.length a0.2.1) : Int), 0, a0.1, a0.2.1, a0.2.2.1, a0.2.2.2, [-1, 0, 1] ++ a0.1)) none fun d7 ↦
 optC (L_cfg_Steps_29_2_0 (d7.2.2.2.1, (↑d7.2.2.2.1.length : Int), 0, d7.2.2.2.2)) none fun d8 ↦
 optC (L_cfg_Steps_106_0_0 ((↑d8.length : Int), 0, d8)) none fun d9 ↦
 Sum.elim
 (fun e10 ↦
 bif decide (e10.length < 4611686018427387904) then
 bif decide ((srtI e10).length < 4611686018427387904) then
 some (List.drop 0 (List.take (Go.Lib.compact (List.take (srtI e10).length (srtI e10))).length (cutI (srtI e10) (srtI e10).length)))
 else none
 else none)
 (fun e10 ↦
 bif e10.1 == -1 then
 bif decide (e10.2.length < 4611686018427387904) then
 bif decide ((srtI e10.2).length < 4611686018427387904) then
 some
 (List.drop 0 (List.take (Go.Lib.compact (List.take (srtI e10.2).length (srtI e10.2))).length (cutI (srtI e10.2) (srtI e10.2).length)))
 else none
 else none
 else
 optC (L_cfg_Steps_69_0_0 (e10.1, Go.IntKind.i64.wrap (e10.1 + 1), e10.2)) none fun d11 ↦
 bif decide (0 ≤ d11.1 ∧ d11.1 ≤ (↑d11.2.length : Int) ∧ (↑d11.2.length : Int) ≤ (↑d11.2.length : Int)) then
 bif decide ((↑d11.2.length : Int).toNat ≤ d11.1.toNat) then
 bif decide ((0 : Int) ≤ 0 ∧ 0 ≤ d11.1 ∧ d11.1 ≤ (↑d11.2.length : Int)) then
 bif decide (d11.1.toNat ≤ d11.2.length ∧ d11.2.length < 4611686018427387904) then
 bif
 decide
 (d11.1.toNat ≤ (srtI (List.take d11.1.toNat d11.2) ++ List.drop d11.1.toNat d11.2).length ∧
 (srtI (List.take d11.1.toNat d11.2) ++ List.drop d11.1.toNat d11.2).length < 4611686018427387904) then
 some
 (List.drop 0
 (List.take (Go.Lib.compact (List.take d11.1.toNat (srtI (List.take d11.1.toNat d11.2) ++ List.drop d11.1.toNat d11.2))).length
 (cutI (srtI (List.take d11.1.toNat d11.2) ++ List.drop d11.1.toNat d11.2) d11.1.toNat)))
 else none
 else none
 else none
 else
 bif decide ((↑d11.2.length : Int).toNat ≤ d11.2.length) then
 bif
 decide
 ((0 : Int) ≤ 0 ∧
 0 ≤ d11.1 ∧
 d11.1 ≤
 (↑(List.take d11.1.toNat d11.2 ++ List.replicate ((↑d11.2.length : Int).toNat - d11.1.toNat) 0 ++ List.drop (↑d11.2.length : Int).toNat d11.2).length :
 Int)) then
 bif
 decide
 (d11.1.toNat ≤
 (List.take d11.1.toNat d11.2 ++ List.replicate ((↑d11.2.length : Int).toNat - d11.1.toNat) 0 ++ List.drop (↑d11.2.length : Int).toNat d11.2).length ∧
 (List.take d11.1.toNat d11.2 ++ List.replicate ((↑d11.2.length : Int).toNat - d11.1.toNat) 0 ++ List.drop (↑d11.2.length : Int).toNat d11.2).length <
 4611686018427387904) then
 bif
 decide
 (d11.1.toNat ≤
 (srtI
 (List.take d11.1.toNat
 (List.take d11.1.toNat d11.2 ++ List.replicate ((↑d11.2.length : Int).toNat - d11.1.toNat) 0 ++ List.drop (↑d11.2.length : Int).toNat d11.2)) ++
 List.drop d11.1.toNat
 (List.take d11.1.toNat d11.2 ++ List.replicate ((↑d11.2.length : Int).toNat - d11.1.toNat) 0 ++
 List.drop (↑d11.2.length : Int).toNat d11.2)).length ∧
 (srtI
 (List.take d11.1.toNat
 (List.take d11.1.toNat d11.2 ++ List.replicate ((↑d11.2.length : Int).toNat - d11.1.toNat) 0 ++ List.drop (↑d11.2.length : Int).toNat d11.2)) ++
 List.drop d11.1.toNat
 (List.take d11.1.toNat d11.2 ++ List.replicate ((↑d11.2.length : Int).toNat - d11.1.toNat) 0 ++
 List.drop (↑d11.2.length : Int).toNat d11.2)).length <
 4611686018427387904) then
 some
 (List.drop 0
 (List.take
 (Go.Lib.compact
 (List.take d11.1.toNat
 (srtI
 (List.take d11.1.toNat
 (List.take d11.1.toNat d11.2 ++ List.replicate ((↑d11.2.length : Int).toNat - d11.1.toNat) 0 ++
 List.drop (↑d11.2.length : Int).toNat d11.2)) ++
 List.drop d11.1.toNat
 (List.take d11.1.toNat d11.2 ++ List.replicate ((↑d11.2.length : Int).toNat - d11.1.toNat) 0 ++
 List.drop (↑d11.2.length : Int).toNat d11.2)))).length
 (cutI
 (srtI
 (List.take d11.1.toNat
 (List.take d11.1.toNat d11.2 ++ List.replicate ((↑d11.2.length : Int).toNat - d11.1.toNat) 0 ++ List.drop (↑d11.2.length : Int).toNat d11.2)) ++
 List.drop d11.1.toNat
 (List.take d11.1.toNat d11.2 ++ List.replicate ((↑d11.2.length : Int).toNat - d11.1.toNat) 0 ++ List.drop (↑d11.2.length : Int).toNat d11.2))
 d11.1.toNat)))
 else none
 else none
 else none
 else none
 else none)
 d9
 else none
theorem raw_cfg_Steps (a0 : U) : evGX (cxU sp_cfg_Steps [lc_cfg_Steps_29_0, lc_cfg_Steps_29_4, lc_cfg_Steps_29_2, lc_cfg_Steps_106_0, lc_cfg_Steps_69_0] 40 1048576) keeps 8 29 ash_cfg_Steps (.dat (.sl (.int .i64))) ((a0, ()) : (U × Unit)) = g_cfg_Steps a0 := by kernel_rfl
noncomputable def G_cfg_Steps (x : (U × Unit)) : Option (List Int) := g_cfg_Steps x.1
noncomputable def con_cfg_Steps : List AV → Prog AV := conP true ash_cfg_Steps (.dat (.sl (.int .i64))) G_cfg_Steps
theorem snd_cfg_Steps : SoundA Tryz.prog 29 con_cfg_Steps := conP_sound (calU sp_cfg_Steps [lc_cfg_Steps_29_0, lc_cfg_Steps_29_4, lc_cfg_Steps_29_2, lc_cfg_Steps_106_0, lc_cfg_Steps_69_0] 40 1048576 8 29) true (by rfl) (by rfl) (fun x r e => (evGX_eq _ _ _ _ _ _ _).trans ((raw_cfg_Steps x.1).trans e)) (.inl rfl)
end Go.Proofs.YtmjbedjnojcmfaaGreatDoor.Ex

namespace Go.Proofs.YtmjbedjnojcmfaaGreatDoor.Ex
set_option maxRecDepth 100000
set_option maxHeartbeats 2000000
set_option linter.unusedVariables false
set_option linter.unusedSimpArgs false
noncomputable def bd_cfg_Steps_29_0_0 (b0 : (List Int)) (b0_1 : (List Int)) (b0_2 : Int) (b0_3 : (List C)) (s15 : (List Int)) (i : Nat) (b1 : (List Int)) (d : Int) : Option ((List Int) ⊕ X_cfg_Steps_29_0_0_0) :=
  bif decide ((b1.length + [d, Go.IntKind.i64.wrap (d - 1)].length + 1) * 8 ≤ lim) then
   some (Sum.inl (b1 ++ [d, Go.IntKind.i64.wrap (d - 1)]))
 else none
noncomputable def fn_cfg_Steps_29_0_0 (b0 : (List Int)) (b0_1 : (List Int)) (b0_2 : Int) (b0_3 : (List C)) (s15 : (List Int)) (b1 : (List Int)) : Option X_cfg_Steps_29_0_0_0 :=
  some (b0, b0_1, b0_2, b0_3, b1)
noncomputable abbrev rx_cfg_Steps_29_0_0 (b0 : (List Int)) (b0_1 : (List Int)) (b0_2 : Int) (b0_3 : (List C)) (s15 : (List Int)) (i : Nat) (s : (List Int)) : X_cfg_Steps_29_0_0 := (s15, (s15.length : Int), (i : Int), b0, b0_1, b0_2, b0_3, s)
noncomputable def rv_cfg_Steps_29_0_0 (b0 : (List Int)) (b0_1 : (List Int)) (b0_2 : Int) (b0_3 : (List C)) (s15 : (List Int)) (s : (List Int)) : Option X_cfg_Steps_29_0_0_0 := rangeO (fun i s d => bd_cfg_Steps_29_0_0 b0 b0_1 b0_2 b0_3 s15 i s d) (fun s => fn_cfg_Steps_29_0_0 b0 b0_1 b0_2 b0_3 s15 s) 0 s15 s
theorem rg_cfg_Steps_29_0_0 (b0 : (List Int)) (b0_1 : (List Int)) (b0_2 : Int) (b0_3 : (List C)) (s15 : (List Int)) (s : (List Int)) (hl : s15.length < 9223372036854775807) : L_cfg_Steps_29_0_0 (s15, (s15.length : Int), 0, b0, b0_1, b0_2, b0_3, s) = rv_cfg_Steps_29_0_0 b0 b0_1 b0_2 b0_3 s15 s := by
  unfold L_cfg_Steps_29_0_0 rv_cfg_Steps_29_0_0
  refine iterO_range0 s15 (rx_cfg_Steps_29_0_0 b0 b0_1 b0_2 b0_3 s15) _ _ ?_ ?_ s (by unfold FUEL; omega)
  · intro i s d hi hd
    have e1 : decide ((i : Int) < (s15.length : Int)) = true := decide_eq_true (by omega)
    have e2 : decide (0 ≤ (i : Int)) = true := decide_eq_true (by omega)
    have e3 : Int.toNat (i : Int) = i := Int.toNat_natCast i
    have e4 := wrap_next hi (Nat.le_of_lt hl)
    show st_cfg_Steps_29_0_0 (s15) ((s15.length : Int)) ((i : Int)) (b0) (b0_1) (b0_2) (b0_3) (s) = upd _ (bd_cfg_Steps_29_0_0 b0 b0_1 b0_2 b0_3 s15 i s d)
    unfold st_cfg_Steps_29_0_0 bd_cfg_Steps_29_0_0
    simp only [e1, e2, e3, e4, hd, cond_true, cond_false, optC_some, upd_cond, upd_optC, upd_elim, upd_inl, upd_inr, upd_none]
  · intro s
    have e1 : decide ((s15.length : Int) < (s15.length : Int)) = false := decide_eq_false (by omega)
    show st_cfg_Steps_29_0_0 (s15) ((s15.length : Int)) ((s15.length : Int)) (b0) (b0_1) (b0_2) (b0_3) (s) = _
    unfold st_cfg_Steps_29_0_0 fn_cfg_Steps_29_0_0
    rw [e1]
    rfl
end Go.Proofs.YtmjbedjnojcmfaaGreatDoor.Ex

namespace Go.Proofs.YtmjbedjnojcmfaaGreatDoor.Ex
open Go.Proofs
set_option maxRecDepth 100000
set_option maxHeartbeats 2000000
set_option linter.unusedVariables false
set_option linter.unusedSimpArgs false
theorem fold_app {α : Type} (g : α → List Int) : ∀ (r : List α) (l : List Int), r.foldl (fun s d => s ++ g d) l = l ++ r.flatMap g
  | [], l => by simp
  | a :: r, l => by rw [List.foldl_cons, fold_app g r, List.flatMap_cons, List.append_assoc]
theorem c_arr (u : U) (l : List Int) (hu : ∀ n ∈ u.2.1, 1 ≤ n ∧ n ≤ 16) (h : l.length + 2 * u.2.1.length ≤ 10000) :
    L_cfg_Steps_29_0_0 (u.2.1, (u.2.1.length : Int), 0, u.1, u.2.1, u.2.2.1, u.2.2.2, l) = some (u.1, u.2.1, u.2.2.1, u.2.2.2, l ++ u.2.1.flatMap numD) := by
  rw [rg_cfg_Steps_29_0_0 u.1 u.2.1 u.2.2.1 u.2.2.2 u.2.1 l (by omega)]
  unfold rv_cfg_Steps_29_0_0
  rw [fold_range (g := fun s d => s ++ numD d) (fun s r => s.length + 2 * r.length ≤ 10000 ∧ ∀ n ∈ r, 1 ≤ n ∧ n ≤ 16) (fun j s d r h => ?_) u.2.1 0 l ⟨h, hu⟩, fold_app]
  · rfl
  · have h' := h.1
    rw [List.length_cons] at h'
    have hd := h.2 d (by simp)
    have w : IntKind.i64.wrap (d - 1) = d - 1 := wrap_id (by omega) (by omega)
    have q : decide ((s.length + 2 + 1) * 8 ≤ lim) = true := decide_eq_true (by unfold lim; omega)
    refine ⟨?_, by simp only [numD, List.length_append, List.length_cons, List.length_nil]; omega, fun n hn => h.2 n (by simp [hn])⟩
    simp only [bd_cfg_Steps_29_0_0, w, List.length_cons, List.length_nil, Nat.zero_add, q, cond_true, numD]
end Go.Proofs.YtmjbedjnojcmfaaGreatDoor.Ex

namespace Go.Proofs.YtmjbedjnojcmfaaGreatDoor.Ex
open Go.Proofs
set_option maxRecDepth 100000
set_option maxHeartbeats 2000000
set_option linter.unusedVariables false
set_option linter.unusedSimpArgs false
def numB (a : A) : List Int := bif a.1 == 1 then [a.2.2.2.2.2.1 - 1, a.2.2.2.2.2.1, a.2.2.2.2.2.1 + 1] else []
theorem numB_len (a : A) : (numB a).length ≤ 3 := by unfold numB; cases a.1 == 1 <;> simp
theorem flat_len {α : Type} {g : α → List Int} {k : Nat} (h : ∀ a, (g a).length ≤ k) : ∀ r : List α, (r.flatMap g).length ≤ k * r.length
  | [] => by simp
  | a :: r => by
    have := h a
    have := flat_len h r
    rw [List.flatMap_cons, List.length_append, List.length_cons, Nat.mul_succ]; omega
theorem c_acts (s29 : List C) (s30 s31 : Int) (acts : List A) (hf : ∀ a ∈ acts, fitB a.2.2.2.2.2.1 = true) (ha : acts.length ≤ 60) (l : List Int) (hl : l.length ≤ 7000) :
    L_cfg_Steps_29_4_0 (s29, s30, s31, acts, (acts.length : Int), 0, l) = some (s29, s30, s31, l ++ acts.flatMap numB) := by
  have go : ∀ (r : List A) (i : Nat) (s : List Int) (k : Nat), acts.drop i = r → i + r.length = acts.length → s.length + 3 * r.length ≤ 8000 →
      iterO (fun x : X_cfg_Steps_29_4_0 => st_cfg_Steps_29_4_0 x.1 x.2.1 x.2.2.1 x.2.2.2.1 x.2.2.2.2.1 x.2.2.2.2.2.1 x.2.2.2.2.2.2) (k + r.length + 1) (s29, s30, s31, acts, (acts.length : Int), (i : Int), s) = some (s29, s30, s31, s ++ r.flatMap numB) := by
    intro r
    induction r with
    | nil =>
      intro i s k hd hi hs
      have e : decide ((i : Int) < (acts.length : Int)) = false := decide_eq_false (by simp at hi; omega)
      simp only [iterO, st_cfg_Steps_29_4_0, e, cond_false]
      simp
    | cons a r ih =>
      intro i s k hd hi hs
      rw [List.length_cons] at hi hs ⊢
      have hc : acts[i]? = some a := by
        have := congrArg (fun q => q[0]?) hd
        simpa using this
      have e : decide ((i : Int) < (acts.length : Int)) = true := decide_eq_true (by omega)
      have e0 : decide (0 ≤ (i : Int)) = true := decide_eq_true (by omega)
      have w := wrap_next (i := i) (n := acts.length) (by omega) (by omega)
      have hfa := fit_iff.1 (hf a (List.mem_of_getElem? hc))
      have w1 : IntKind.i64.wrap (a.2.2.2.2.2.1 - 1) = a.2.2.2.2.2.1 - 1 := wrap_id (by omega) (by omega)
      have w2 : IntKind.i64.wrap (a.2.2.2.2.2.1 + 1) = a.2.2.2.2.2.1 + 1 := wrap_id (by omega) (by omega)
      have lm : decide ((s.length + 3 + 1) * 8 ≤ lim) = true := decide_eq_true (by unfold lim; omega)
      have nb := numB_len a
      have ih' := ih (i + 1) (s ++ numB a) k (by rw [← List.drop_drop, hd]; rfl) (by omega) (by rw [List.length_append]; omega)
      rw [show k + (r.length + 1) + 1 = (k + r.length + 1) + 1 by omega, iterO, List.flatMap_cons, ← List.append_assoc]
      rw [← ih']
      simp only [st_cfg_Steps_29_4_0, e, e0, cond_true, Int.toNat_natCast, hc, optC_some, w, w1, w2, List.length_cons, List.length_nil, Nat.zero_add, lm]
      unfold numB
      cases a.1 == 1
      · simp only [cond_false, List.append_nil]
      · simp only [cond_true]
  unfold L_cfg_Steps_29_4_0
  have := go acts 0 l (FUEL - acts.length - 1) rfl (by simp) (by omega)
  rw [show FUEL - acts.length - 1 + acts.length + 1 = FUEL by unfold FUEL; omega] at this
  exact this
def numBs (c : C) : List Int := c.2.flatMap numB
theorem c_thr (u : U) (hu : unitOK u) (l : List Int) (hl : l.length ≤ 1000) : L_cfg_Steps_29_2_0 (u.2.2.2, (u.2.2.2.length : Int), 0, l) = some (l ++ u.2.2.2.flatMap numBs) := by
  have ht := hu.t
  have go : ∀ (r : List C) (i : Nat) (s : List Int) (k : Nat), u.2.2.2.drop i = r → i + r.length = u.2.2.2.length → s.length + 180 * r.length ≤ 6000 →
      iterO (fun x : X_cfg_Steps_29_2_0 => st_cfg_Steps_29_2_0 x.1 x.2.1 x.2.2.1 x.2.2.2) (k + r.length + 1) (u.2.2.2, (u.2.2.2.length : Int), (i : Int), s) = some (s ++ r.flatMap numBs) := by
    intro r
    induction r with
    | nil =>
      intro i s k hd hi hs
      have e : decide ((i : Int) < (u.2.2.2.length : Int)) = false := decide_eq_false (by simp at hi; omega)
      simp only [iterO, st_cfg_Steps_29_2_0, e, cond_false]
      simp
    | cons c r ih =>
      intro i s k hd hi hs
      rw [List.length_cons] at hi hs ⊢
      have hc : u.2.2.2[i]? = some c := by
        have := congrArg (fun q => q[0]?) hd
        simpa using this
      have ho := hu.ts c (List.mem_of_getElem? hc)
      have e : decide ((i : Int) < (u.2.2.2.length : Int)) = true := decide_eq_true (by omega)
      have e0 : decide (0 ≤ (i : Int)) = true := decide_eq_true (by omega)
      have w := wrap_next (i := i) (n := u.2.2.2.length) (by omega) (by omega)
      have hn := ho.n.2
      have a1 := c_acts u.2.2.2 (u.2.2.2.length : Int) (i : Int) c.2 (fun a ha => (ho.a a ha).n) hn s (by omega)
      have a2 := flat_len numB_len c.2
      have ih' := ih (i + 1) (s ++ numBs c) k (by rw [← List.drop_drop, hd]; rfl) (by omega) (by rw [List.length_append]; unfold numBs; omega)
      rw [show k + (r.length + 1) + 1 = (k + r.length + 1) + 1 by omega, iterO, List.flatMap_cons, ← List.append_assoc, ← ih']
      simp only [st_cfg_Steps_29_2_0, e, e0, cond_true, Int.toNat_natCast, hc, optC_some, a1, w]
      rfl
  unfold L_cfg_Steps_29_2_0
  have := go u.2.2.2 0 l (FUEL - u.2.2.2.length - 1) rfl (by simp) (by omega)
  rw [show FUEL - u.2.2.2.length - 1 + u.2.2.2.length + 1 = FUEL by unfold FUEL; omega] at this
  exact this
theorem c_find (L : List Int) (hL : L.length ≤ 10000) : (L_cfg_Steps_106_0_0 ((L.length : Int), 0, L) = some (.inl L) ∧ L.filter fitB = L) ∨ ∃ j : Nat, j < L.length ∧ L_cfg_Steps_106_0_0 ((L.length : Int), 0, L) = some (.inr ((j : Int), L)) ∧ L.filter fitB = L.take j ++ (L.drop (j + 1)).filter fitB := by
  have go : ∀ (r : List Int) (i : Nat) (k : Nat), L.drop i = r → i + r.length = L.length → (L.take i).filter fitB = L.take i →
      (iterO (fun x : X_cfg_Steps_106_0_0 => st_cfg_Steps_106_0_0 x.1 x.2.1 x.2.2) (k + r.length + 1) ((L.length : Int), (i : Int), L) = some (.inl L) ∧ L.filter fitB = L) ∨
      ∃ j : Nat, j < L.length ∧ iterO (fun x : X_cfg_Steps_106_0_0 => st_cfg_Steps_106_0_0 x.1 x.2.1 x.2.2) (k + r.length + 1) ((L.length : Int), (i : Int), L) = some (.inr ((j : Int), L)) ∧ L.filter fitB = L.take j ++ (L.drop (j + 1)).filter fitB := by
    intro r
    induction r with
    | nil =>
      intro i k hd hi hf
      have hi : i = L.length := by simpa using hi
      have e : decide ((i : Int) < (L.length : Int)) = false := decide_eq_false (by omega)
      refine .inl ⟨?_, ?_⟩
      · simp only [iterO, st_cfg_Steps_106_0_0, e, cond_false]
      · subst hi
        rwa [List.take_length] at hf
    | cons d r ih =>
      intro i k hd hi hf
      rw [List.length_cons] at hi ⊢
      have hc : L[i]? = some d := by
        have := congrArg (fun q => q[0]?) hd
        simpa using this
      have e : decide ((i : Int) < (L.length : Int)) = true := decide_eq_true (by omega)
      have e0 : decide (0 ≤ (i : Int)) = true := decide_eq_true (by omega)
      have w := wrap_next (i := i) (n := L.length) (by omega) (by omega)
      have hs : iterO (fun x : X_cfg_Steps_106_0_0 => st_cfg_Steps_106_0_0 x.1 x.2.1 x.2.2) (k + (r.length + 1) + 1) ((L.length : Int), (i : Int), L) =
          bif fitB d then iterO (fun x : X_cfg_Steps_106_0_0 => st_cfg_Steps_106_0_0 x.1 x.2.1 x.2.2) (k + r.length + 1) ((L.length : Int), ((i + 1 : Nat) : Int), L) else some (.inr ((i : Int), L)) := by
        rw [show k + (r.length + 1) + 1 = (k + r.length + 1) + 1 by omega, iterO]
        simp only [st_cfg_Steps_106_0_0, e, e0, cond_true, Int.toNat_natCast, hc, optC_some, w]
        simp only [G_num_Fits, n_num_Fits1, optC_some]
        cases fitB d <;> rfl
      rw [hs]
      cases hq : fitB d
      · refine .inr ⟨i, by omega, rfl, ?_⟩
        have hL2 : L = L.take i ++ d :: L.drop (i + 1) := by
          have : L.drop i = d :: L.drop (i + 1) := by
            have h1 := (List.getElem?_eq_some_iff.1 hc)
            obtain ⟨h1, h2⟩ := h1
            rw [List.drop_eq_getElem_cons h1, h2]
          rw [← this, List.take_append_drop]
        conv => lhs; rw [hL2]
        rw [List.filter_append, hf, List.filter_cons, hq]
        rfl
      · refine ih (i + 1) k (by rw [← List.drop_drop, hd]; rfl) (by omega) ?_
        rw [List.take_add_one, hc, List.filter_append, hf]
        simp [hq]
  unfold L_cfg_Steps_106_0_0
  have := go L 0 (FUEL - L.length - 1) rfl (by simp) rfl
  rw [show FUEL - L.length - 1 + L.length + 1 = FUEL by unfold FUEL; omega] at this
  exact this
theorem c_del (L : List Int) (hL : L.length ≤ 10000) (j0 : Nat) (hj : j0 < L.length) (hf : L.filter fitB = L.take j0 ++ (L.drop (j0 + 1)).filter fitB) :
    ∃ (j : Nat) (X : List Int), L_cfg_Steps_69_0_0 ((j0 : Int), ((j0 + 1 : Nat) : Int), L) = some ((j : Int), X) ∧ j ≤ X.length ∧ X.length = L.length ∧ X.take j = L.filter fitB := by
  have go : ∀ (r : List Int) (i j : Nat) (X : List Int) (k : Nat), j ≤ i → X.drop i = r → X.length = L.length → i + r.length = L.length → X.take j ++ r.filter fitB = L.filter fitB →
      ∃ (j' : Nat) (X' : List Int), iterO (fun x : X_cfg_Steps_69_0_0 => st_cfg_Steps_69_0_0 x.1 x.2.1 x.2.2) (k + r.length + 1) ((j : Int), (i : Int), X) = some ((j' : Int), X') ∧ j' ≤ X'.length ∧ X'.length = L.length ∧ X'.take j' = L.filter fitB := by
    intro r
    induction r with
    | nil =>
      intro i j X k hji hd hX hi hq
      have hi : i = L.length := by simpa using hi
      have e : decide ((i : Int) < (X.length : Int)) = false := decide_eq_false (by omega)
      refine ⟨j, X, ?_, by omega, hX, by simpa using hq⟩
      simp only [iterO, st_cfg_Steps_69_0_0, e, cond_false]
    | cons d r ih =>
      intro i j X k hji hd hX hi hq
      rw [List.length_cons] at hi ⊢
      have hc : X[i]? = some d := by
        have := congrArg (fun q => q[0]?) hd
        simpa using this
      have e : decide ((i : Int) < (X.length : Int)) = true := decide_eq_true (by omega)
      have e0 : decide (0 ≤ (i : Int)) = true := decide_eq_true (by omega)
      have e1 : decide (0 ≤ (j : Int)) = true := decide_eq_true (by omega)
      have w := wrap_next (i := i) (n := X.length) (by omega) (by omega)
      have wj := wrap_next (i := j) (n := X.length) (by omega) (by omega)
      have hd1 : X.drop (i + 1) = r := by rw [← List.drop_drop, hd]; rfl
      have gj : X[j]? = some (X[j]'(by omega)) := List.getElem?_eq_getElem _
      have hs : iterO (fun x : X_cfg_Steps_69_0_0 => st_cfg_Steps_69_0_0 x.1 x.2.1 x.2.2) (k + (r.length + 1) + 1) ((j : Int), (i : Int), X) =
          bif fitB d then iterO (fun x : X_cfg_Steps_69_0_0 => st_cfg_Steps_69_0_0 x.1 x.2.1 x.2.2) (k + r.length + 1) (((j + 1 : Nat) : Int), ((i + 1 : Nat) : Int), X.set j d)
          else iterO (fun x : X_cfg_Steps_69_0_0 => st_cfg_Steps_69_0_0 x.1 x.2.1 x.2.2) (k + r.length + 1) ((j : Int), ((i + 1 : Nat) : Int), X) := by
        rw [show k + (r.length + 1) + 1 = (k + r.length + 1) + 1 by omega, iterO]
        simp only [st_cfg_Steps_69_0_0, e, e0, e1, cond_true, Int.toNat_natCast, hc, gj, optC_some, w, wj]
        simp only [G_num_Fits, n_num_Fits1, optC_some]
        cases fitB d <;> rfl
      rw [hs]
      rw [List.filter_cons] at hq
      cases hw : fitB d
      · rw [hw] at hq
        exact ih (i + 1) j X k (by omega) hd1 hX (by omega) hq
      · rw [hw] at hq
        refine ih (i + 1) (j + 1) (X.set j d) k (by omega) ?_ (by rw [List.length_set]; exact hX) (by omega) ?_
        · rw [List.drop_set_of_lt (by omega)]; exact hd1
        · rw [← hq, List.take_add_one, List.getElem?_set_self (by omega), List.take_set_of_le (Nat.le_refl _)]
          simp
  unfold L_cfg_Steps_69_0_0
  have h1 : (L.drop (j0 + 1)).length = L.length - (j0 + 1) := List.length_drop ..
  have := go (L.drop (j0 + 1)) (j0 + 1) j0 L (FUEL - (L.length - (j0 + 1)) - 1) (by omega) rfl rfl (by omega) hf.symm
  rw [h1, show FUEL - (L.length - (j0 + 1)) - 1 + (L.length - (j0 + 1)) + 1 = FUEL by unfold FUEL; omega] at this
  exact this
def rawN (u : U) : List Int := [-1, 0, 1] ++ u.1 ++ u.2.1.flatMap numD ++ u.2.2.2.flatMap numBs
theorem cut_take (M : List Int) (m : Nat) : List.drop 0 (List.take (Lib.compact (List.take m M)).length (cutI M m)) = Lib.compact (List.take m M) := by
  unfold cutI
  rw [List.drop_zero, List.append_assoc, List.take_left]
theorem kept_steps (u : U) : Lib.compact (srtI ((rawN u).filter fitB)) = stepsV u := by
  obtain ⟨h1, h2⟩ := comp_srt ((rawN u).filter fitB)
  refine rise_uniq _ _ h1 (steps_rise u) fun x => ?_
  rw [h2, steps_mem, List.mem_filter]
  have k : x ∈ rawN u ↔ x ∈ ([-1, 0, 1] : List Int) ∨ x ∈ allN u := by
    unfold rawN allN
    have hB : ∀ a : A, x ∈ numB a ↔ x ∈ numA a := fun a => by
      unfold numB numA
      cases a.1 == 1
      · rfl
      · simp only [cond_true, List.mem_cons]
        exact ⟨fun h => by rcases h with h | h | h | h <;> simp_all, fun h => by rcases h with h | h | h | h <;> simp_all⟩
    have hC : ∀ c : C, x ∈ numBs c ↔ x ∈ numC c := fun c => by
      unfold numBs numC
      simp only [List.mem_flatMap, hB]
    simp only [List.mem_append, List.mem_flatMap, hC, or_assoc]
  rw [k]
  constructor
  · rintro ⟨h | h, hf⟩
    · exact .inr h
    · exact .inl ⟨h, hf⟩
  · rintro (⟨h, hf⟩ | h)
    · exact ⟨.inr h, hf⟩
    · refine ⟨.inl h, ?_⟩
      simp only [List.mem_cons, List.not_mem_nil, or_false] at h
      rcases h with rfl | rfl | rfl <;> rfl
theorem raw_len (u : U) (hu : unitOK u) : (rawN u).length ≤ 3000 := by
  have h1 := hu.g
  have h2 := hu.a
  have h3 := hu.t
  have a := flat_len (g := numD) (k := 2) (fun d => Nat.le_refl _) u.2.1
  have b : ∀ (r : List C), (∀ c ∈ r, c.2.length ≤ 60) → (r.flatMap numBs).length ≤ 180 * r.length := by
    intro r
    induction r with
    | nil => simp
    | cons c r ih =>
      intro h
      have h0 := h c (by simp)
      have := ih fun c hc => h c (by simp [hc])
      have := flat_len numB_len c.2
      rw [List.flatMap_cons, List.length_append, List.length_cons]
      unfold numBs at *
      omega
  have b := b u.2.2.2 fun c hc => (hu.ts c hc).n.2
  unfold rawN
  simp only [List.length_append, List.length_cons, List.length_nil]
  omega
theorem srt_len (l : List Int) : (srtI l).length = l.length := by unfold srtI; exact List.length_mergeSort _
theorem n_cfg_Steps (u : U) (hu : unitOK u) : g_cfg_Steps u = some (stepsV u) := by
  have g1 := hu.g
  have g2 := hu.a
  have rl := raw_len u hu
  unfold g_cfg_Steps
  rw [decide_eq_true (show ([-1, 0, 1].length + List.length u.1 + 1) * 8 ≤ lim by simp only [List.length_cons, List.length_nil]; unfold lim; omega), cond_true]
  rw [c_arr u _ (fun n hn => hu.ars n hn) (by simp only [List.length_append, List.length_cons, List.length_nil]; omega)]
  simp only [optC_some]
  have rl' := rl
  unfold rawN at rl'
  rw [List.length_append] at rl'
  have a2 := flat_len (g := numD) (k := 2) (fun d => Nat.le_refl _) u.2.1
  rw [c_thr u hu _ (by simp only [List.length_append, List.length_cons, List.length_nil]; omega)]
  simp only [optC_some]
  rw [← kept_steps]
  show optC (L_cfg_Steps_106_0_0 (((rawN u).length : Int), 0, rawN u)) none _ = _
  generalize rawN u = L at *
  rcases c_find L (by omega) with ⟨h1, h2⟩ | ⟨j0, hj, h1, h2⟩
  · rw [h1, h2]
    have s1 := srt_len L
    simp only [optC_some, Sum.elim_inl]
    rw [decide_eq_true (show L.length < 4611686018427387904 by omega), decide_eq_true (show (srtI L).length < 4611686018427387904 by omega), cond_true, cond_true, cut_take, List.take_length]
  · rw [h1]
    obtain ⟨j, X, d1, d2, d3, d4⟩ := c_del L (by omega) j0 hj h2
    rw [← d4]
    have n1 : ((j0 : Int) == -1) = false := by simp
    have w : IntKind.i64.wrap ((j0 : Int) + 1) = ((j0 + 1 : Nat) : Int) := wrap_next (n := L.length) hj (by omega)
    have ts : (srtI (List.take j X)).length = j := by rw [srt_len, List.length_take]; omega
    simp only [optC_some, Sum.elim_inr, n1, cond_false, w, d1, Int.toNat_natCast]
    have c1 : decide (0 ≤ (j : Int) ∧ (j : Int) ≤ (X.length : Int) ∧ (X.length : Int) ≤ (X.length : Int)) = true := decide_eq_true (by omega)
    rw [c1, cond_true]
    by_cases q : X.length ≤ j
    · have c2 : decide ((0 : Int) ≤ 0 ∧ 0 ≤ (j : Int) ∧ (j : Int) ≤ (X.length : Int)) = true := decide_eq_true (by omega)
      have c3 : decide (j ≤ X.length ∧ X.length < 4611686018427387904) = true := decide_eq_true (by omega)
      have c4 : decide (j ≤ (srtI (List.take j X) ++ List.drop j X).length ∧ (srtI (List.take j X) ++ List.drop j X).length < 4611686018427387904) = true := decide_eq_true (by rw [List.length_append, ts, List.length_drop]; omega)
      rw [decide_eq_true q, c2, c3, c4]
      simp only [cond_true]
      rw [cut_take, List.take_append_of_le_length (by omega), List.take_of_length_le (by omega)]
    · rw [decide_eq_false q]
      simp only [cond_false]
      have lt : (List.take j X).length = j := by rw [List.length_take]; omega
      have y1 : (List.take j X ++ List.replicate (X.length - j) 0 ++ List.drop X.length X).length = X.length := by simp only [List.length_append, lt, List.length_replicate, List.length_drop]; omega
      have y2 : List.take j (List.take j X ++ List.replicate (X.length - j) 0 ++ List.drop X.length X) = List.take j X := by rw [List.append_assoc, List.take_append_of_le_length (by omega), List.take_take, Nat.min_self]
      have key : ∀ Y : List Int, Y.length = X.length → List.take j Y = List.take j X →
          (bif decide (X.length ≤ X.length) then bif decide ((0 : Int) ≤ 0 ∧ 0 ≤ (j : Int) ∧ (j : Int) ≤ (Y.length : Int)) then bif decide (j ≤ Y.length ∧ Y.length < 4611686018427387904) then
            bif decide (j ≤ (srtI (List.take j Y) ++ List.drop j Y).length ∧ (srtI (List.take j Y) ++ List.drop j Y).length < 4611686018427387904) then
              some (List.drop 0 (List.take (Lib.compact (List.take j (srtI (List.take j Y) ++ List.drop j Y))).length (cutI (srtI (List.take j Y) ++ List.drop j Y) j))) else none else none else none else none) = some (Lib.compact (srtI (List.take j X))) := fun Y y1 y2 => by
        have tY : (srtI (List.take j Y)).length = j := by rw [y2]; exact ts
        have c2 : decide ((0 : Int) ≤ 0 ∧ 0 ≤ (j : Int) ∧ (j : Int) ≤ (Y.length : Int)) = true := decide_eq_true (by omega)
        have c3 : decide (j ≤ Y.length ∧ Y.length < 4611686018427387904) = true := decide_eq_true (by omega)
        have c4 : decide (j ≤ (srtI (List.take j Y) ++ List.drop j Y).length ∧ (srtI (List.take j Y) ++ List.drop j Y).length < 4611686018427387904) = true := decide_eq_true (by rw [List.length_append, tY, List.length_drop]; omega)
        rw [decide_eq_true (Nat.le_refl X.length), c2, c3, c4]
        simp only [cond_true]
        rw [cut_take, List.take_append_of_le_length (by omega), List.take_of_length_le (by omega), y2]
      exact key _ y1 y2
end Go.Proofs.YtmjbedjnojcmfaaGreatDoor.Ex

namespace Go.Proofs.YtmjbedjnojcmfaaGreatDoor.Ex
set_option maxRecDepth 100000
set_option linter.unusedVariables false
set_option linter.unusedSimpArgs false
theorem all_len (u : U) (hu : unitOK u) : (allN u).length ≤ 3000 := by
  have h1 := hu.g
  have h2 := hu.a
  have h3 := hu.t
  have a := flat_len (g := numD) (k := 2) (fun d => Nat.le_refl _) u.2.1
  have la : ∀ a : A, (numA a).length ≤ 3 := fun a => by unfold numA; cases a.1 == 1 <;> simp
  have b : ∀ (r : List C), (∀ c ∈ r, c.2.length ≤ 60) → (r.flatMap numC).length ≤ 180 * r.length := by
    intro r
    induction r with
    | nil => simp
    | cons c r ih =>
      intro h
      have h0 := h c (by simp)
      have := ih fun c hc => h c (by simp [hc])
      have := flat_len la c.2
      rw [List.flatMap_cons, List.length_append, List.length_cons]
      unfold numC at *
      omega
  have b := b u.2.2.2 fun c hc => (hu.ts c hc).n.2
  unfold allN
  simp only [List.length_append]
  omega
theorem steps_len (u : U) (hu : unitOK u) : (stepsV u).length ≤ 4000 := by
  rw [steps_flat]
  have := lays_len (allN u) [-1, 0, 1]
  have := all_len u hu
  simp only [List.length_cons, List.length_nil] at *
  omega
end Go.Proofs.YtmjbedjnojcmfaaGreatDoor.Ex

namespace Go.Proofs.YtmjbedjnojcmfaaGreatDoor.Ex
open Go.Proofs Go.Proofs.YtmjbedjnojcmfaaGreatDoor
set_option maxRecDepth 100000
set_option maxHeartbeats 2000000
set_option linter.unusedVariables false
set_option linter.unusedSimpArgs false
def ash_ref8_Ints : List Sh := [.dat (.sl (.int .i64)), .dat (.sl (.int .i64))]
def kp_ref8_Ints_30_0 : Nat → List Nat := fun c => bif c.beq 0 then [0, 1, 5] else [4]
noncomputable def sp_ref8_Ints : List Con := []
def s_ref8_Ints_30_0_0 : StS := ⟨[(0, .sl (.int .i64)), (1, .sl (.int .i64)), (5, .int .i64)], [], 0⟩
def x_ref8_Ints_30_0_0_0 : StS := ⟨[(4, .undef)], [], 0⟩
def x_ref8_Ints_30_0_0_1 : StS := ⟨[(4, .bool)], [], 0⟩
abbrev X_ref8_Ints_30_0_0 := ((List Int) × (List Int) × Int)
def fl_ref8_Ints_30_0_0 (d : StD s_ref8_Ints_30_0_0) : X_ref8_Ints_30_0_0 := (d.1.1, d.1.2.1, d.1.2.2.1)
def un_ref8_Ints_30_0_0 (x : X_ref8_Ints_30_0_0) : StD s_ref8_Ints_30_0_0 := ((x.1, x.2.1, x.2.2, ()), ())
abbrev X_ref8_Ints_30_0_0_0 := Unit
def fl_ref8_Ints_30_0_0_0 (d : StD x_ref8_Ints_30_0_0_0) : X_ref8_Ints_30_0_0_0 := ()
def un_ref8_Ints_30_0_0_0 (x : X_ref8_Ints_30_0_0_0) : StD x_ref8_Ints_30_0_0_0 := (((), ()), ())
abbrev X_ref8_Ints_30_0_0_1 := Bool
def fl_ref8_Ints_30_0_0_1 (d : StD x_ref8_Ints_30_0_0_1) : X_ref8_Ints_30_0_0_1 := (d.1.1)
def un_ref8_Ints_30_0_0_1 (x : X_ref8_Ints_30_0_0_1) : StD x_ref8_Ints_30_0_0_1 := ((x, ()), ())
noncomputable def st_ref8_Ints_30_0_0 (s0 : (List Int)) (s1 : (List Int)) (s5 : Int) : Option (((List Int) × (List Int) × Int) ⊕ (Unit ⊕ Bool)) :=
  bif decide (s5 < (↑s0.length : Int)) then
 bif decide (0 ≤ s5) then
 optC s0[s5.toNat]? none fun d5 ↦
 bif decide (0 ≤ s5) then
 optC s1[s5.toNat]? none fun d6 ↦ bif d5 != d6 then some (Sum.inr (Sum.inr false)) else some (Sum.inl (s0, s1, Go.IntKind.i64.wrap (s5 + 1)))
 else none
 else none
 else some (Sum.inr (Sum.inl PUnit.unit))
noncomputable def sx_ref8_Ints_30_0_0 (x : X_ref8_Ints_30_0_0) : Option (X_ref8_Ints_30_0_0 ⊕ (X_ref8_Ints_30_0_0_0 ⊕ X_ref8_Ints_30_0_0_1)) := st_ref8_Ints_30_0_0 x.1 x.2.1 x.2.2
theorem rn_ref8_Ints_30_0_0 (x : X_ref8_Ints_30_0_0) : rdX (cxU sp_ref8_Ints [] 40 1048576) keeps 8 ⟨30, 26, keeps 30, 0⟩ 0 (bodyX 30 0) 0 kp_ref8_Ints_30_0 (sT s_ref8_Ints_30_0_0 (un_ref8_Ints_30_0_0 x)) (sH s_ref8_Ints_30_0_0 (un_ref8_Ints_30_0_0 x)) (rdO (fun T h => (rdS s_ref8_Ints_30_0_0 T h).map fl_ref8_Ints_30_0_0) (getOr (getE 2 x_ref8_Ints_30_0_0_0 fl_ref8_Ints_30_0_0_0) (getE 1 x_ref8_Ints_30_0_0_1 fl_ref8_Ints_30_0_0_1))) = sx_ref8_Ints_30_0_0 x := by kernel_rfl
noncomputable def L_ref8_Ints_30_0_0 (x : X_ref8_Ints_30_0_0) : Option (X_ref8_Ints_30_0_0_0 ⊕ X_ref8_Ints_30_0_0_1) := iterO (fun x => st_ref8_Ints_30_0_0 x.1 x.2.1 x.2.2) FUEL x
noncomputable def q_ref8_Ints_30_0 : Nat → Tm → Prog (Nat × Tm) := (varP 0 (fun T h => (rdS s_ref8_Ints_30_0_0 T h).map fl_ref8_Ints_30_0_0) L_ref8_Ints_30_0_0 (fun y => .alt y (altE 2 x_ref8_Ints_30_0_0_0 un_ref8_Ints_30_0_0_0) (altE 1 x_ref8_Ints_30_0_0_1 un_ref8_Ints_30_0_0_1)) (fun _ _ => .fail))
noncomputable def lc_ref8_Ints_30_0 : Lpc := ⟨30, 0, 26, (fun base T => .norm base (kp_ref8_Ints_30_0 0) T (q_ref8_Ints_30_0 base)), by kernel_rfl, by kernel_rfl, (loopU sp_ref8_Ints [] 40 1048576 8 (keep := kp_ref8_Ints_30_0) (q := q_ref8_Ints_30_0) (by kernel_rfl) (varX_ok (s := s_ref8_Ints_30_0_0) (un := un_ref8_Ints_30_0_0) (by rfl) (fun _ => rfl) (getOr_ok (getE_ok (s := x_ref8_Ints_30_0_0_0) (un := un_ref8_Ints_30_0_0_0) (by rfl) (fun _ => rfl)) (getE_ok (s := x_ref8_Ints_30_0_0_1) (un := un_ref8_Ints_30_0_0_1) (by rfl) (fun _ => rfl))) (step := sx_ref8_Ints_30_0_0) rn_ref8_Ints_30_0_0 (fun _ _ e => ⟨_, e⟩) (altOr_ok (altE_ok 2 x_ref8_Ints_30_0_0_0 un_ref8_Ints_30_0_0_0) (altE_ok 1 x_ref8_Ints_30_0_0_1 un_ref8_Ints_30_0_0_1)) (VarOk.fail _ _)))⟩
noncomputable def g_ref8_Ints (a0 : (List Int)) (a1 : (List Int)) : Option Bool :=
  bif (↑a0.length : Int) != (↑a1.length : Int) then some false
 else optC (L_ref8_Ints_30_0_0 (a0, a1, 0)) none fun d4 ↦ Sum.elim (fun e5 ↦ some true) (fun e5 ↦ some e5) d4
theorem raw_ref8_Ints (a0 : (List Int)) (a1 : (List Int)) : evGX (cxU sp_ref8_Ints [lc_ref8_Ints_30_0] 40 1048576) keeps 8 30 ash_ref8_Ints (.dat .bool) ((a0, a1, ()) : ((List Int) × ((List Int) × Unit))) = g_ref8_Ints a0 a1 := by kernel_rfl
noncomputable def G_ref8_Ints (x : ((List Int) × ((List Int) × Unit))) : Option Bool := g_ref8_Ints x.1 x.2.1
noncomputable def con_ref8_Ints : List AV → Prog AV := conP true ash_ref8_Ints (.dat .bool) G_ref8_Ints
theorem snd_ref8_Ints : SoundA Tryz.prog 30 con_ref8_Ints := conP_sound (calU sp_ref8_Ints [lc_ref8_Ints_30_0] 40 1048576 8 30) true (by rfl) (by rfl) (fun x r e => (evGX_eq _ _ _ _ _ _ _).trans ((raw_ref8_Ints x.1 x.2.1).trans e)) (.inl rfl)
end Go.Proofs.YtmjbedjnojcmfaaGreatDoor.Ex

namespace Go.Proofs.YtmjbedjnojcmfaaGreatDoor.Ex
set_option maxRecDepth 100000
set_option maxHeartbeats 2000000
set_option linter.unusedVariables false
set_option linter.unusedSimpArgs false
noncomputable def bd_ref8_Ints_30_0_0 (s1 : (List Int)) (s0 : (List Int)) (i : Nat)  (d : Int) : Option (Unit ⊕ (X_ref8_Ints_30_0_0_0 ⊕ X_ref8_Ints_30_0_0_1)) :=
  optC s1[i]? (none) fun d6 ↦
   bif d != d6 then
   some (Sum.inr (Sum.inr false))
 else some (Sum.inl ())
noncomputable def fn_ref8_Ints_30_0_0 (s1 : (List Int)) (s0 : (List Int))  : Option (X_ref8_Ints_30_0_0_0 ⊕ X_ref8_Ints_30_0_0_1) :=
  some (Sum.inl PUnit.unit)
noncomputable abbrev rx_ref8_Ints_30_0_0 (s1 : (List Int)) (s0 : (List Int)) (i : Nat) (s : Unit) : X_ref8_Ints_30_0_0 := (s0, s1, (i : Int))
noncomputable def rv_ref8_Ints_30_0_0 (s1 : (List Int)) (s0 : (List Int)) (s : Unit) : Option (X_ref8_Ints_30_0_0_0 ⊕ X_ref8_Ints_30_0_0_1) := rangeO (fun i s d => bd_ref8_Ints_30_0_0 s1 s0 i  d) (fun s => fn_ref8_Ints_30_0_0 s1 s0 ) 0 s0 s
theorem rg_ref8_Ints_30_0_0 (s1 : (List Int)) (s0 : (List Int)) (s : Unit) (hl : s0.length < 9223372036854775807) : L_ref8_Ints_30_0_0 (s0, s1, 0) = rv_ref8_Ints_30_0_0 s1 s0 s := by
  unfold L_ref8_Ints_30_0_0 rv_ref8_Ints_30_0_0
  refine iterO_range0 s0 (rx_ref8_Ints_30_0_0 s1 s0) _ _ ?_ ?_ s (by unfold FUEL; omega)
  · intro i s d hi hd
    have e1 : decide ((i : Int) < (s0.length : Int)) = true := decide_eq_true (by omega)
    have e2 : decide (0 ≤ (i : Int)) = true := decide_eq_true (by omega)
    have e3 : Int.toNat (i : Int) = i := Int.toNat_natCast i
    have e4 := wrap_next hi (Nat.le_of_lt hl)
    show st_ref8_Ints_30_0_0 (s0) (s1) ((i : Int)) = upd _ (bd_ref8_Ints_30_0_0 s1 s0 i  d)
    unfold st_ref8_Ints_30_0_0 bd_ref8_Ints_30_0_0
    simp only [e1, e2, e3, e4, hd, cond_true, cond_false, optC_some, upd_cond, upd_optC, upd_elim, upd_inl, upd_inr, upd_none]
  · intro s
    have e1 : decide ((s0.length : Int) < (s0.length : Int)) = false := decide_eq_false (by omega)
    show st_ref8_Ints_30_0_0 (s0) (s1) ((s0.length : Int)) = _
    unfold st_ref8_Ints_30_0_0 fn_ref8_Ints_30_0_0
    rw [e1]
    rfl
end Go.Proofs.YtmjbedjnojcmfaaGreatDoor.Ex

namespace Go.Proofs.YtmjbedjnojcmfaaGreatDoor.Ex
open Go.Proofs Go.Proofs.YtmjbedjnojcmfaaGreatDoor
set_option maxRecDepth 100000
set_option maxHeartbeats 2000000
set_option linter.unusedVariables false
set_option linter.unusedSimpArgs false
def ash_law8_wide : List Sh := [.dat tU]
def kp_law8_wide_25_0 : Nat → List Nat := fun c => bif c.beq 0 then [1, 3, 4] else [3]
noncomputable def sp_law8_wide : List Con := []
def s_law8_wide_25_0_0 : StS := ⟨[(1, .ptr 0 0), (3, .int .i64), (4, .int .i64)], [(0, .box [.sl (.int .i64), .sl (.int .i64), .int .i64, .sl tC])], 1⟩
def x_law8_wide_25_0_0_0 : StS := ⟨[(3, .int .i64)], [], 0⟩
abbrev X_law8_wide_25_0_0 := (Int × Int × (List Int) × (List Int) × Int × (List C))
def fl_law8_wide_25_0_0 (d : StD s_law8_wide_25_0_0) : X_law8_wide_25_0_0 := (d.1.2.1, d.1.2.2.1, d.2.1.1, d.2.1.2.1, d.2.1.2.2.1, d.2.1.2.2.2.1)
def un_law8_wide_25_0_0 (x : X_law8_wide_25_0_0) : StD s_law8_wide_25_0_0 := (((), x.1, x.2.1, ()), ((x.2.2.1, x.2.2.2.1, x.2.2.2.2.1, x.2.2.2.2.2, ()), ()))
abbrev X_law8_wide_25_0_0_0 := Int
def fl_law8_wide_25_0_0_0 (d : StD x_law8_wide_25_0_0_0) : X_law8_wide_25_0_0_0 := (d.1.1)
def un_law8_wide_25_0_0_0 (x : X_law8_wide_25_0_0_0) : StD x_law8_wide_25_0_0_0 := ((x, ()), ())
noncomputable def st_law8_wide_25_0_0 (s3 : Int) (s4 : Int) (b0 : (List Int)) (b0_1 : (List Int)) (b0_2 : Int) (b0_3 : (List C)) : Option ((Int × Int × (List Int) × (List Int) × Int × (List C)) ⊕ Int) :=
  bif decide (s4 < (↑b0_3.length : Int)) then
 bif decide (s3 ≤ 400) then
 bif decide (0 ≤ s4) then
 optC b0_3[s4.toNat]? none fun d8 ↦
 some (Sum.inl (Go.IntKind.i64.wrap (Go.IntKind.i64.wrap (s3 + 1) + (↑(List.length d8.2) : Int)), Go.IntKind.i64.wrap (s4 + 1), b0, b0_1, b0_2, b0_3))
 else none
 else some (Sum.inr s3)
 else some (Sum.inr s3)
noncomputable def sx_law8_wide_25_0_0 (x : X_law8_wide_25_0_0) : Option (X_law8_wide_25_0_0 ⊕ X_law8_wide_25_0_0_0) := st_law8_wide_25_0_0 x.1 x.2.1 x.2.2.1 x.2.2.2.1 x.2.2.2.2.1 x.2.2.2.2.2
theorem rn_law8_wide_25_0_0 (x : X_law8_wide_25_0_0) : rdX (cxU sp_law8_wide [] 40 1048576) keeps 8 ⟨25, 35, keeps 25, 0⟩ 0 (bodyX 25 0) 0 kp_law8_wide_25_0 (sT s_law8_wide_25_0_0 (un_law8_wide_25_0_0 x)) (sH s_law8_wide_25_0_0 (un_law8_wide_25_0_0 x)) (rdO (fun T h => (rdS s_law8_wide_25_0_0 T h).map fl_law8_wide_25_0_0) (getE 2 x_law8_wide_25_0_0_0 fl_law8_wide_25_0_0_0)) = sx_law8_wide_25_0_0 x := by kernel_rfl
noncomputable def L_law8_wide_25_0_0 (x : X_law8_wide_25_0_0) : Option X_law8_wide_25_0_0_0 := iterO (fun x => st_law8_wide_25_0_0 x.1 x.2.1 x.2.2.1 x.2.2.2.1 x.2.2.2.2.1 x.2.2.2.2.2) FUEL x
noncomputable def q_law8_wide_25_0 : Nat → Tm → Prog (Nat × Tm) := (varP 0 (fun T h => (rdS s_law8_wide_25_0_0 T h).map fl_law8_wide_25_0_0) L_law8_wide_25_0_0 (altE 2 x_law8_wide_25_0_0_0 un_law8_wide_25_0_0_0) (fun _ _ => .fail))
noncomputable def lc_law8_wide_25_0 : Lpc := ⟨25, 0, 35, (fun base T => .norm base (kp_law8_wide_25_0 0) T (q_law8_wide_25_0 base)), by kernel_rfl, by kernel_rfl, (loopU sp_law8_wide [] 40 1048576 8 (keep := kp_law8_wide_25_0) (q := q_law8_wide_25_0) (by kernel_rfl) (varX_ok (s := s_law8_wide_25_0_0) (un := un_law8_wide_25_0_0) (by rfl) (fun _ => rfl) (getE_ok (s := x_law8_wide_25_0_0_0) (un := un_law8_wide_25_0_0_0) (by rfl) (fun _ => rfl)) (step := sx_law8_wide_25_0_0) rn_law8_wide_25_0_0 (fun _ _ e => ⟨_, e⟩) (altE_ok 2 x_law8_wide_25_0_0_0 un_law8_wide_25_0_0_0) (VarOk.fail _ _)))⟩
noncomputable def g_law8_wide (a0 : U) : Option Bool :=
  optC (L_law8_wide_25_0_0 (Go.IntKind.i64.wrap ((↑(List.length a0.1) : Int) + (↑(List.length a0.2.1) : Int)), 0, a0)) none fun d3 ↦ some (decide (d3 > 400))
theorem raw_law8_wide (a0 : U) : evGX (cxU sp_law8_wide [lc_law8_wide_25_0] 40 1048576) keeps 8 25 ash_law8_wide (.dat .bool) ((a0, ()) : (U × Unit)) = g_law8_wide a0 := by kernel_rfl
noncomputable def G_law8_wide (x : (U × Unit)) : Option Bool := g_law8_wide x.1
noncomputable def con_law8_wide : List AV → Prog AV := conP true ash_law8_wide (.dat .bool) G_law8_wide
theorem snd_law8_wide : SoundA Tryz.prog 25 con_law8_wide := conP_sound (calU sp_law8_wide [lc_law8_wide_25_0] 40 1048576 8 25) true (by rfl) (by rfl) (fun x r e => (evGX_eq _ _ _ _ _ _ _).trans ((raw_law8_wide x.1).trans e)) (.inl rfl)
end Go.Proofs.YtmjbedjnojcmfaaGreatDoor.Ex

namespace Go.Proofs.YtmjbedjnojcmfaaGreatDoor.Ex
set_option maxRecDepth 100000
set_option maxHeartbeats 2000000
set_option linter.unusedVariables false
set_option linter.unusedSimpArgs false
noncomputable def bd_law8_wide_25_0_0 (b0 : (List Int)) (b0_1 : (List Int)) (b0_2 : Int) (b0_3 : (List C)) (i : Nat) (s3 : Int) (d : C) : Option (Int ⊕ X_law8_wide_25_0_0_0) :=
  bif decide (s3 ≤ 400) then
   some (Sum.inl (Go.IntKind.i64.wrap (Go.IntKind.i64.wrap (s3 + 1) + (↑(List.length d.2) : Int))))
 else some (Sum.inr s3)
noncomputable def fn_law8_wide_25_0_0 (b0 : (List Int)) (b0_1 : (List Int)) (b0_2 : Int) (b0_3 : (List C)) (s3 : Int) : Option X_law8_wide_25_0_0_0 :=
  some s3
noncomputable abbrev rx_law8_wide_25_0_0 (b0 : (List Int)) (b0_1 : (List Int)) (b0_2 : Int) (b0_3 : (List C)) (i : Nat) (s : Int) : X_law8_wide_25_0_0 := (s, (i : Int), b0, b0_1, b0_2, b0_3)
noncomputable def rv_law8_wide_25_0_0 (b0 : (List Int)) (b0_1 : (List Int)) (b0_2 : Int) (b0_3 : (List C)) (s : Int) : Option X_law8_wide_25_0_0_0 := rangeO (fun i s d => bd_law8_wide_25_0_0 b0 b0_1 b0_2 b0_3 i s d) (fun s => fn_law8_wide_25_0_0 b0 b0_1 b0_2 b0_3 s) 0 b0_3 s
theorem rg_law8_wide_25_0_0 (b0 : (List Int)) (b0_1 : (List Int)) (b0_2 : Int) (b0_3 : (List C)) (s : Int) (hl : b0_3.length < 9223372036854775807) : L_law8_wide_25_0_0 (s, 0, b0, b0_1, b0_2, b0_3) = rv_law8_wide_25_0_0 b0 b0_1 b0_2 b0_3 s := by
  unfold L_law8_wide_25_0_0 rv_law8_wide_25_0_0
  refine iterO_range0 b0_3 (rx_law8_wide_25_0_0 b0 b0_1 b0_2 b0_3) _ _ ?_ ?_ s (by unfold FUEL; omega)
  · intro i s d hi hd
    have e1 : decide ((i : Int) < (b0_3.length : Int)) = true := decide_eq_true (by omega)
    have e2 : decide (0 ≤ (i : Int)) = true := decide_eq_true (by omega)
    have e3 : Int.toNat (i : Int) = i := Int.toNat_natCast i
    have e4 := wrap_next hi (Nat.le_of_lt hl)
    show st_law8_wide_25_0_0 (s) ((i : Int)) (b0) (b0_1) (b0_2) (b0_3) = upd _ (bd_law8_wide_25_0_0 b0 b0_1 b0_2 b0_3 i s d)
    unfold st_law8_wide_25_0_0 bd_law8_wide_25_0_0
    simp only [e1, e2, e3, e4, hd, cond_true, cond_false, optC_some, upd_cond, upd_optC, upd_elim, upd_inl, upd_inr, upd_none]
  · intro s
    have e1 : decide ((b0_3.length : Int) < (b0_3.length : Int)) = false := decide_eq_false (by omega)
    show st_law8_wide_25_0_0 (s) ((b0_3.length : Int)) (b0) (b0_1) (b0_2) (b0_3) = _
    unfold st_law8_wide_25_0_0 fn_law8_wide_25_0_0
    rw [e1]
    rfl
end Go.Proofs.YtmjbedjnojcmfaaGreatDoor.Ex

namespace Go.Proofs.YtmjbedjnojcmfaaGreatDoor.Ex
def isClo (k f : Nat) (args : List AV) : Bool := match args[k]? with
  | some (.clo g _ _) => Nat.beq g f
  | _ => false
end Go.Proofs.YtmjbedjnojcmfaaGreatDoor.Ex

namespace Go.Proofs.YtmjbedjnojcmfaaGreatDoor.Ex
open Go.Proofs Go.Proofs.YtmjbedjnojcmfaaGreatDoor
set_option maxRecDepth 100000
set_option maxHeartbeats 2000000
set_option linter.unusedVariables false
set_option linter.unusedSimpArgs false
def ash_cf_act : List Sh := [.dat (.sl (.int .i64)), .clo 140 [] [.view [.int .i64, .sln tA] 0]]
def kp_cf_act_106_0 : Nat → List Nat := fun c => bif c.beq 0 then [0, 1, 7, 8] else [4]
noncomputable def sp_cf_act : List Con := [⟨56, con_cfg_isIn, snd_cfg_isIn⟩]
def s_cf_act_106_0_0 : StS := ⟨[(0, .sl (.int .i64)), (1, .clo 140 [] [.view [.int .i64, .sl tA] 0]), (7, .int .i64), (8, .int .i64)], [], 0⟩
def x_cf_act_106_0_0_0 : StS := ⟨[(4, .undef)], [], 0⟩
def x_cf_act_106_0_0_1 : StS := ⟨[(4, .int .i64)], [], 0⟩
abbrev X_cf_act_106_0_0 := ((List Int) × Int × (List A) × Int × Int)
def fl_cf_act_106_0_0 (d : StD s_cf_act_106_0_0) : X_cf_act_106_0_0 := (d.1.1, d.1.2.1.2.1.1, d.1.2.1.2.1.2.1, d.1.2.2.1, d.1.2.2.2.1)
def un_cf_act_106_0_0 (x : X_cf_act_106_0_0) : StD s_cf_act_106_0_0 := ((x.1, ((), ((x.2.1, x.2.2.1, ()), ())), x.2.2.2.1, x.2.2.2.2, ()), ())
abbrev X_cf_act_106_0_0_0 := Unit
def fl_cf_act_106_0_0_0 (d : StD x_cf_act_106_0_0_0) : X_cf_act_106_0_0_0 := ()
def un_cf_act_106_0_0_0 (x : X_cf_act_106_0_0_0) : StD x_cf_act_106_0_0_0 := (((), ()), ())
abbrev X_cf_act_106_0_0_1 := Int
def fl_cf_act_106_0_0_1 (d : StD x_cf_act_106_0_0_1) : X_cf_act_106_0_0_1 := (d.1.1)
def un_cf_act_106_0_0_1 (x : X_cf_act_106_0_0_1) : StD x_cf_act_106_0_0_1 := ((x, ()), ())
noncomputable def st_cf_act_106_0_0 (s0 : (List Int)) (s1 : Int) (s1_1 : (List A)) (s7 : Int) (s8 : Int) : Option (((List Int) × Int × (List A) × Int × Int) ⊕ (Unit ⊕ Int)) :=
  bif decide (s8 < s7) then
 bif decide (0 ≤ s8) then
 optC s0[s8.toNat]? none fun d7 ↦
 optC (G_cfg_isIn (d7, 0, Go.IntKind.i64.wrap (s1 - 1), ())) none fun d8 ↦
 bif !d8 then some (Sum.inr (Sum.inr s8)) else some (Sum.inl (s0, s1, s1_1, s7, Go.IntKind.i64.wrap (s8 + 1)))
 else none
 else some (Sum.inr (Sum.inl PUnit.unit))
noncomputable def sx_cf_act_106_0_0 (x : X_cf_act_106_0_0) : Option (X_cf_act_106_0_0 ⊕ (X_cf_act_106_0_0_0 ⊕ X_cf_act_106_0_0_1)) := st_cf_act_106_0_0 x.1 x.2.1 x.2.2.1 x.2.2.2.1 x.2.2.2.2
theorem rn_cf_act_106_0_0 (x : X_cf_act_106_0_0) : rdX (cxU sp_cf_act [] 40 (1048576 ^ 9)) keeps 8 ⟨106, 19, keeps 106, 0⟩ 0 (bodyX 106 0) 0 kp_cf_act_106_0 (sT s_cf_act_106_0_0 (un_cf_act_106_0_0 x)) (sH s_cf_act_106_0_0 (un_cf_act_106_0_0 x)) (rdO (fun T h => (rdS s_cf_act_106_0_0 T h).map fl_cf_act_106_0_0) (getOr (getE 2 x_cf_act_106_0_0_0 fl_cf_act_106_0_0_0) (getE 1 x_cf_act_106_0_0_1 fl_cf_act_106_0_0_1))) = sx_cf_act_106_0_0 x := by kernel_rfl
noncomputable def L_cf_act_106_0_0 (x : X_cf_act_106_0_0) : Option (X_cf_act_106_0_0_0 ⊕ X_cf_act_106_0_0_1) := iterO (fun x => st_cf_act_106_0_0 x.1 x.2.1 x.2.2.1 x.2.2.2.1 x.2.2.2.2) FUEL x
noncomputable def q_cf_act_106_0 : Nat → Tm → Prog (Nat × Tm) := (varP 0 (fun T h => (rdS s_cf_act_106_0_0 T h).map fl_cf_act_106_0_0) L_cf_act_106_0_0 (fun y => .alt y (altE 2 x_cf_act_106_0_0_0 un_cf_act_106_0_0_0) (altE 1 x_cf_act_106_0_0_1 un_cf_act_106_0_0_1)) (fun _ _ => .fail))
noncomputable def lc_cf_act_106_0 : Lpc := ⟨106, 0, 19, (fun base T => .norm base (kp_cf_act_106_0 0) T (q_cf_act_106_0 base)), by kernel_rfl, by kernel_rfl, (loopU sp_cf_act [] 40 (1048576 ^ 9) 8 (keep := kp_cf_act_106_0) (q := q_cf_act_106_0) (by kernel_rfl) (varX_ok (s := s_cf_act_106_0_0) (un := un_cf_act_106_0_0) (by rfl) (fun _ => rfl) (getOr_ok (getE_ok (s := x_cf_act_106_0_0_0) (un := un_cf_act_106_0_0_0) (by rfl) (fun _ => rfl)) (getE_ok (s := x_cf_act_106_0_0_1) (un := un_cf_act_106_0_0_1) (by rfl) (fun _ => rfl))) (step := sx_cf_act_106_0_0) rn_cf_act_106_0_0 (fun _ _ e => ⟨_, e⟩) (altOr_ok (altE_ok 2 x_cf_act_106_0_0_0 un_cf_act_106_0_0_0) (altE_ok 1 x_cf_act_106_0_0_1 un_cf_act_106_0_0_1)) (VarOk.fail _ _)))⟩
noncomputable def g_cf_act (a0 : (List Int)) (a1 : Int) (a2 : (List A)) : Option Bool :=
  optC (L_cf_act_106_0_0 (a0, a1, a2, (↑a0.length : Int), 0)) none fun d5 ↦ Sum.elim (fun e6 ↦ some (decide (-1 ≥ 0))) (fun e6 ↦ some (decide (e6 ≥ 0))) d5
theorem raw_cf_act (a0 : (List Int)) (a1 : Int) (a2 : (List A)) : evGX (cxU sp_cf_act [lc_cf_act_106_0] 40 (1048576 ^ 9)) keeps 8 57 ash_cf_act (.dat .bool) ((a0, ((), ((a1, a2, ()), ())), ()) : ((List Int) × ((Unit × ((Int × ((List A) × Unit)) × Unit)) × Unit))) = g_cf_act a0 a1 a2 := by kernel_rfl
noncomputable def G_cf_act (x : ((List Int) × ((Unit × ((Int × ((List A) × Unit)) × Unit)) × Unit))) : Option Bool := g_cf_act x.1 x.2.1.2.1.1 x.2.1.2.1.2.1
noncomputable def con_cf_act : List AV → Prog AV := conP true ash_cf_act (.dat .bool) G_cf_act
theorem snd_cf_act : SoundA Tryz.prog 57 con_cf_act := conP_sound (calU sp_cf_act [lc_cf_act_106_0] 40 (1048576 ^ 9) 8 57) true (by rfl) (by rfl) (fun x r e => (evGX_eq _ _ _ _ _ _ _).trans ((raw_cf_act x.1 x.2.1.2.1.1 x.2.1.2.1.2.1).trans e)) (.inl rfl)
end Go.Proofs.YtmjbedjnojcmfaaGreatDoor.Ex

namespace Go.Proofs.YtmjbedjnojcmfaaGreatDoor.Ex
open Go.Proofs Go.Proofs.YtmjbedjnojcmfaaGreatDoor
set_option maxRecDepth 100000
set_option maxHeartbeats 2000000
set_option linter.unusedVariables false
set_option linter.unusedSimpArgs false
def ash_cf_arr : List Sh := [.dat (.sl (.int .i64)), .clo 58 [] []]
def kp_cf_arr_106_0 : Nat → List Nat := fun c => bif c.beq 0 then [0, 1, 7, 8] else [4]
noncomputable def sp_cf_arr : List Con := [⟨56, con_cfg_isIn, snd_cfg_isIn⟩]
def s_cf_arr_106_0_0 : StS := ⟨[(0, .sl (.int .i64)), (1, .clo 58 [] []), (7, .int .i64), (8, .int .i64)], [], 0⟩
def x_cf_arr_106_0_0_0 : StS := ⟨[(4, .undef)], [], 0⟩
def x_cf_arr_106_0_0_1 : StS := ⟨[(4, .int .i64)], [], 0⟩
abbrev X_cf_arr_106_0_0 := ((List Int) × Int × Int)
def fl_cf_arr_106_0_0 (d : StD s_cf_arr_106_0_0) : X_cf_arr_106_0_0 := (d.1.1, d.1.2.2.1, d.1.2.2.2.1)
def un_cf_arr_106_0_0 (x : X_cf_arr_106_0_0) : StD s_cf_arr_106_0_0 := ((x.1, ((), ()), x.2.1, x.2.2, ()), ())
abbrev X_cf_arr_106_0_0_0 := Unit
def fl_cf_arr_106_0_0_0 (d : StD x_cf_arr_106_0_0_0) : X_cf_arr_106_0_0_0 := ()
def un_cf_arr_106_0_0_0 (x : X_cf_arr_106_0_0_0) : StD x_cf_arr_106_0_0_0 := (((), ()), ())
abbrev X_cf_arr_106_0_0_1 := Int
def fl_cf_arr_106_0_0_1 (d : StD x_cf_arr_106_0_0_1) : X_cf_arr_106_0_0_1 := (d.1.1)
def un_cf_arr_106_0_0_1 (x : X_cf_arr_106_0_0_1) : StD x_cf_arr_106_0_0_1 := ((x, ()), ())
noncomputable def st_cf_arr_106_0_0 (s0 : (List Int)) (s7 : Int) (s8 : Int) : Option (((List Int) × Int × Int) ⊕ (Unit ⊕ Int)) :=
  bif decide (s8 < s7) then
 bif decide (0 ≤ s8) then
 optC s0[s8.toNat]? none fun d5 ↦
 optC (G_cfg_isIn (d5, 1, 16, ())) none fun d6 ↦ bif !d6 then some (Sum.inr (Sum.inr s8)) else some (Sum.inl (s0, s7, Go.IntKind.i64.wrap (s8 + 1)))
 else none
 else some (Sum.inr (Sum.inl PUnit.unit))
noncomputable def sx_cf_arr_106_0_0 (x : X_cf_arr_106_0_0) : Option (X_cf_arr_106_0_0 ⊕ (X_cf_arr_106_0_0_0 ⊕ X_cf_arr_106_0_0_1)) := st_cf_arr_106_0_0 x.1 x.2.1 x.2.2
theorem rn_cf_arr_106_0_0 (x : X_cf_arr_106_0_0) : rdX (cxU sp_cf_arr [] 40 (1048576 ^ 9)) keeps 8 ⟨106, 19, keeps 106, 0⟩ 0 (bodyX 106 0) 0 kp_cf_arr_106_0 (sT s_cf_arr_106_0_0 (un_cf_arr_106_0_0 x)) (sH s_cf_arr_106_0_0 (un_cf_arr_106_0_0 x)) (rdO (fun T h => (rdS s_cf_arr_106_0_0 T h).map fl_cf_arr_106_0_0) (getOr (getE 2 x_cf_arr_106_0_0_0 fl_cf_arr_106_0_0_0) (getE 1 x_cf_arr_106_0_0_1 fl_cf_arr_106_0_0_1))) = sx_cf_arr_106_0_0 x := by kernel_rfl
noncomputable def L_cf_arr_106_0_0 (x : X_cf_arr_106_0_0) : Option (X_cf_arr_106_0_0_0 ⊕ X_cf_arr_106_0_0_1) := iterO (fun x => st_cf_arr_106_0_0 x.1 x.2.1 x.2.2) FUEL x
noncomputable def q_cf_arr_106_0 : Nat → Tm → Prog (Nat × Tm) := (varP 0 (fun T h => (rdS s_cf_arr_106_0_0 T h).map fl_cf_arr_106_0_0) L_cf_arr_106_0_0 (fun y => .alt y (altE 2 x_cf_arr_106_0_0_0 un_cf_arr_106_0_0_0) (altE 1 x_cf_arr_106_0_0_1 un_cf_arr_106_0_0_1)) (fun _ _ => .fail))
noncomputable def lc_cf_arr_106_0 : Lpc := ⟨106, 0, 19, (fun base T => .norm base (kp_cf_arr_106_0 0) T (q_cf_arr_106_0 base)), by kernel_rfl, by kernel_rfl, (loopU sp_cf_arr [] 40 (1048576 ^ 9) 8 (keep := kp_cf_arr_106_0) (q := q_cf_arr_106_0) (by kernel_rfl) (varX_ok (s := s_cf_arr_106_0_0) (un := un_cf_arr_106_0_0) (by rfl) (fun _ => rfl) (getOr_ok (getE_ok (s := x_cf_arr_106_0_0_0) (un := un_cf_arr_106_0_0_0) (by rfl) (fun _ => rfl)) (getE_ok (s := x_cf_arr_106_0_0_1) (un := un_cf_arr_106_0_0_1) (by rfl) (fun _ => rfl))) (step := sx_cf_arr_106_0_0) rn_cf_arr_106_0_0 (fun _ _ e => ⟨_, e⟩) (altOr_ok (altE_ok 2 x_cf_arr_106_0_0_0 un_cf_arr_106_0_0_0) (altE_ok 1 x_cf_arr_106_0_0_1 un_cf_arr_106_0_0_1)) (VarOk.fail _ _)))⟩
noncomputable def g_cf_arr (a0 : (List Int)) : Option Bool :=
  optC (L_cf_arr_106_0_0 (a0, (↑a0.length : Int), 0)) none fun d3 ↦ Sum.elim (fun e4 ↦ some (decide (-1 ≥ 0))) (fun e4 ↦ some (decide (e4 ≥ 0))) d3
theorem raw_cf_arr (a0 : (List Int)) : evGX (cxU sp_cf_arr [lc_cf_arr_106_0] 40 (1048576 ^ 9)) keeps 8 57 ash_cf_arr (.dat .bool) ((a0, ((), ()), ()) : ((List Int) × ((Unit × Unit) × Unit))) = g_cf_arr a0 := by kernel_rfl
noncomputable def G_cf_arr (x : ((List Int) × ((Unit × Unit) × Unit))) : Option Bool := g_cf_arr x.1
noncomputable def con_cf_arr : List AV → Prog AV := conP true ash_cf_arr (.dat .bool) G_cf_arr
theorem snd_cf_arr : SoundA Tryz.prog 57 con_cf_arr := conP_sound (calU sp_cf_arr [lc_cf_arr_106_0] 40 (1048576 ^ 9) 8 57) true (by rfl) (by rfl) (fun x r e => (evGX_eq _ _ _ _ _ _ _).trans ((raw_cf_arr x.1).trans e)) (.inl rfl)
end Go.Proofs.YtmjbedjnojcmfaaGreatDoor.Ex

namespace Go.Proofs.YtmjbedjnojcmfaaGreatDoor.Ex
open Go.Proofs Go.Proofs.YtmjbedjnojcmfaaGreatDoor
set_option maxRecDepth 100000
set_option maxHeartbeats 2000000
set_option linter.unusedVariables false
set_option linter.unusedSimpArgs false
def ash_cfg_named : List Sh := [.dat tA]
noncomputable def sp_cfg_named : List Con := []
noncomputable def g_cfg_named (a0 : A) : Option A :=
  bif a0.1 == 1 then some (a0.1, a0.2.1, 0, 0, 0, a0.2.2.2.2.2.1, 0, a0.2.2.2.2.2.2.2.1, 0)
 else
 bif a0.1 == 2 then some (a0.1, a0.2.1, a0.2.2.1, 0, 0, 0, 0, a0.2.2.2.2.2.2.2.1, 0)
 else
 bif a0.1 == 3 then some (a0.1, a0.2.1, 0, 0, 0, 0, 0, a0.2.2.2.2.2.2.2.1, 0)
 else
 bif a0.1 == 4 then some (a0.1, a0.2.1, a0.2.2.1, a0.2.2.2.1, 0, 0, a0.2.2.2.2.2.2.1, a0.2.2.2.2.2.2.2.1, 0)
 else
 bif a0.1 == 5 then some (a0.1, a0.2.1, 0, 0, a0.2.2.2.2.1, 0, 0, a0.2.2.2.2.2.2.2.1, 0)
 else
 bif a0.1 == 6 then some (a0.1, 0, a0.2.2.1, 0, a0.2.2.2.2.1, 0, 0, a0.2.2.2.2.2.2.2.1, 0)
 else
 bif a0.1 == 7 then some (a0.1, a0.2.1, a0.2.2.1, 0, a0.2.2.2.2.1, 0, 0, a0.2.2.2.2.2.2.2.1, 0)
 else
 bif a0.1 == 8 then some (a0.1, 0, a0.2.2.1, a0.2.2.2.1, a0.2.2.2.2.1, 0, 0, a0.2.2.2.2.2.2.2.1, 0)
 else
 bif a0.1 == 9 then some (a0.1, 0, 0, 0, a0.2.2.2.2.1, 0, 0, a0.2.2.2.2.2.2.2.1, 0)
 else
 bif a0.1 == 10 then some (a0.1, 0, 0, 0, a0.2.2.2.2.1, 0, 0, a0.2.2.2.2.2.2.2.1, 0)
 else
 bif a0.1 == 11 then
 some (a0.1, 0, a0.2.2.1, a0.2.2.2.1, 0, 0, a0.2.2.2.2.2.2.1, a0.2.2.2.2.2.2.2.1, a0.2.2.2.2.2.2.2.2)
 else some (a0.1, 0, 0, 0, 0, 0, 0, a0.2.2.2.2.2.2.2.1, 0)
theorem raw_cfg_named (a0 : A) : evGX (cxU sp_cfg_named [] 40 1048576) keeps 8 137 ash_cfg_named (.dat tA) ((a0, ()) : (A × Unit)) = g_cfg_named a0 := by kernel_rfl
noncomputable def G_cfg_named (x : (A × Unit)) : Option A := g_cfg_named x.1
noncomputable def con_cfg_named : List AV → Prog AV := conP true ash_cfg_named (.dat tA) G_cfg_named
theorem snd_cfg_named : SoundA Tryz.prog 137 con_cfg_named := conP_sound (calU sp_cfg_named [] 40 1048576 8 137) true (by rfl) (by rfl) (fun x r e => (evGX_eq _ _ _ _ _ _ _).trans ((raw_cfg_named x.1).trans e)) (.inl rfl)
end Go.Proofs.YtmjbedjnojcmfaaGreatDoor.Ex

namespace Go.Proofs.YtmjbedjnojcmfaaGreatDoor.Ex
open Go.Proofs Go.Proofs.YtmjbedjnojcmfaaGreatDoor
set_option maxRecDepth 100000
set_option maxHeartbeats 2000000
set_option linter.unusedVariables false
set_option linter.unusedSimpArgs false
def ash_cfg_shared : List Sh := [.dat tU, .dat (.int .i64)]
noncomputable def sp_cfg_shared : List Con := []
noncomputable def g_cfg_shared (a0 : U) (a1 : Int) : Option Int :=
  bif a1 == 5 then some (↑(List.length a0.1) : Int)
 else
 bif a1 == 6 then some (↑(List.length a0.1) : Int)
 else
 bif a1 == 7 then some (↑(List.length a0.2.1) : Int)
 else bif a1 == 8 then some (↑(List.length a0.2.1) : Int) else bif a1 == 9 then some a0.2.2.1 else bif a1 == 10 then some a0.2.2.1 else some 1
theorem raw_cfg_shared (a0 : U) (a1 : Int) : evGX (cxU sp_cfg_shared [] 40 1048576) keeps 8 138 ash_cfg_shared (.dat (.int .i64)) ((a0, a1, ()) : (U × (Int × Unit))) = g_cfg_shared a0 a1 := by kernel_rfl
noncomputable def G_cfg_shared (x : (U × (Int × Unit))) : Option Int := g_cfg_shared x.1 x.2.1
noncomputable def con_cfg_shared : List AV → Prog AV := conP true ash_cfg_shared (.dat (.int .i64)) G_cfg_shared
theorem snd_cfg_shared : SoundA Tryz.prog 138 con_cfg_shared := conP_sound (calU sp_cfg_shared [] 40 1048576 8 138) true (by rfl) (by rfl) (fun x r e => (evGX_eq _ _ _ _ _ _ _).trans ((raw_cfg_shared x.1 x.2.1).trans e)) (.inl rfl)
end Go.Proofs.YtmjbedjnojcmfaaGreatDoor.Ex

namespace Go.Proofs.YtmjbedjnojcmfaaGreatDoor.Ex
open Go.Proofs Go.Proofs.YtmjbedjnojcmfaaGreatDoor
set_option maxRecDepth 100000
set_option maxHeartbeats 2000000
set_option linter.unusedVariables false
set_option linter.unusedSimpArgs false
def ash_cfg_vars : List Sh := [.dat tA]
noncomputable def sp_cfg_vars : List Con := []
noncomputable def g_cfg_vars (a0 : A) : Option (List Int) :=
  bif a0.1 == 1 then some [a0.2.1]
 else
 bif a0.1 == 3 then some [a0.2.1]
 else
 bif a0.1 == 5 then some [a0.2.1]
 else
 bif a0.1 == 2 then some [a0.2.1, a0.2.2.1]
 else
 bif a0.1 == 7 then some [a0.2.1, a0.2.2.1]
 else
 bif a0.1 == 4 then some [a0.2.1, a0.2.2.1, a0.2.2.2.1]
 else
 bif a0.1 == 6 then some [a0.2.2.1]
 else bif a0.1 == 8 then some [a0.2.2.1, a0.2.2.2.1] else bif a0.1 == 11 then some [a0.2.2.1, a0.2.2.2.1] else some []
theorem raw_cfg_vars (a0 : A) : evGX (cxU sp_cfg_vars [] 40 1048576) keeps 8 139 ash_cfg_vars (.dat (.sl (.int .i64))) ((a0, ()) : (A × Unit)) = g_cfg_vars a0 := by kernel_rfl
noncomputable def G_cfg_vars (x : (A × Unit)) : Option (List Int) := g_cfg_vars x.1
noncomputable def con_cfg_vars : List AV → Prog AV := conP true ash_cfg_vars (.dat (.sl (.int .i64))) G_cfg_vars
theorem snd_cfg_vars : SoundA Tryz.prog 139 con_cfg_vars := conP_sound (calU sp_cfg_vars [] 40 1048576 8 139) true (by rfl) (by rfl) (fun x r e => (evGX_eq _ _ _ _ _ _ _).trans ((raw_cfg_vars x.1).trans e)) (.inl rfl)
end Go.Proofs.YtmjbedjnojcmfaaGreatDoor.Ex

namespace Go.Proofs.YtmjbedjnojcmfaaGreatDoor.Ex
open Go.Proofs Go.Proofs.YtmjbedjnojcmfaaGreatDoor
set_option maxRecDepth 100000
set_option maxHeartbeats 2000000
set_option linter.unusedVariables false
set_option linter.unusedSimpArgs false
def ash_cfg_isAct : List Sh := [.dat tU, .dat tC, .dat tA]
noncomputable def sp_cfg_isAct : List Con := [⟨56, con_cfg_isIn, snd_cfg_isIn⟩, ⟨137, con_cfg_named, snd_cfg_named⟩, ⟨55, con_num_Fits, snd_num_Fits⟩, ⟨138, con_cfg_shared, snd_cfg_shared⟩, ⟨139, con_cfg_vars, snd_cfg_vars⟩, ⟨57, (pickS (isClo 1 140) con_cf_act con_cf_arr), (SoundA.pick (isClo 1 140) snd_cf_act snd_cf_arr)⟩]
noncomputable def g_cfg_isAct (a0 : U) (a1 : C) (a2 : A) : Option Bool :=
  bif a2.1 == 4 then
 optC (G_cfg_isIn (a2.1, 1, 14, ())) none fun d4 ↦
 bif d4 then
 optC (G_cfg_named (a2, ())) none fun d5 ↦
 bif
 d5.1 == a2.1 &&
 (d5.2.1 == a2.2.1 &&
 (d5.2.2.1 == a2.2.2.1 &&
 (d5.2.2.2.1 == a2.2.2.2.1 &&
 (d5.2.2.2.2.1 == a2.2.2.2.2.1 &&
 (d5.2.2.2.2.2.1 == a2.2.2.2.2.2.1 &&
 (d5.2.2.2.2.2.2.1 == a2.2.2.2.2.2.2.1 &&
 (d5.2.2.2.2.2.2.2.1 == a2.2.2.2.2.2.2.2.1 && d5.2.2.2.2.2.2.2.2 == a2.2.2.2.2.2.2.2.2))))))) then
 optC (G_cfg_isIn (a2.2.2.2.2.2.2.2.1, 0, Go.IntKind.i64.wrap ((↑(List.length a1.2) : Int) - 1), ())) none fun d6 ↦
 bif d6 then
 optC (G_cfg_isIn (a2.2.2.2.2.2.2.2.2, 0, Go.IntKind.i64.wrap ((↑(List.length a1.2) : Int) - 1), ())) none fun d7 ↦
 bif d7 then
 optC (G_num_Fits ([a2.2.2.2.2.2.1], ())) none fun d8 ↦
 bif d8 then
 optC (G_cfg_isIn (a2.2.2.2.2.2.2.1, if (1 : Int) < 5 then 1 else 5, 5, ())) none fun d9 ↦
 bif d9 then
 optC (G_cfg_shared (a0, a2.1, ())) none fun d10 ↦
 optC (G_cfg_isIn (a2.2.2.2.2.1, 0, Go.IntKind.i64.wrap (d10 - 1), ())) none fun d11 ↦
 bif d11 then
 optC (G_cfg_vars (a2, ())) none fun d12 ↦
 optC (G_cf_act (d12, ((), (a1.1, a1.2, ()), ()), ())) none fun d13 ↦ some !d13
 else some false
 else some false
 else some false
 else some false
 else some false
 else some false
 else some false
 else
 bif a2.1 == 11 then
 optC (G_cfg_isIn (a2.1, 1, 14, ())) none fun d4 ↦
 bif d4 then
 optC (G_cfg_named (a2, ())) none fun d5 ↦
 bif
 d5.1 == a2.1 &&
 (d5.2.1 == a2.2.1 &&
 (d5.2.2.1 == a2.2.2.1 &&
 (d5.2.2.2.1 == a2.2.2.2.1 &&
 (d5.2.2.2.2.1 == a2.2.2.2.2.1 &&
 (d5.2.2.2.2.2.1 == a2.2.2.2.2.2.1 &&
 (d5.2.2.2.2.2.2.1 == a2.2.2.2.2.2.2.1 &&
 (d5.2.2.2.2.2.2.2.1 == a2.2.2.2.2.2.2.2.1 && d5.2.2.2.2.2.2.2.2 == a2.2.2.2.2.2.2.2.2))))))) then
 optC (G_cfg_isIn (a2.2.2.2.2.2.2.2.1, 0, Go.IntKind.i64.wrap ((↑(List.length a1.2) : Int) - 1), ())) none fun d6 ↦
 bif d6 then
 optC (G_cfg_isIn (a2.2.2.2.2.2.2.2.2, 0, Go.IntKind.i64.wrap ((↑(List.length a1.2) : Int) - 1), ())) none fun d7 ↦
 bif d7 then
 optC (G_num_Fits ([a2.2.2.2.2.2.1], ())) none fun d8 ↦
 bif d8 then
 optC (G_cfg_isIn (a2.2.2.2.2.2.2.1, if (1 : Int) < 6 then 1 else 6, 6, ())) none fun d9 ↦
 bif d9 then
 optC (G_cfg_shared (a0, a2.1, ())) none fun d10 ↦
 optC (G_cfg_isIn (a2.2.2.2.2.1, 0, Go.IntKind.i64.wrap (d10 - 1), ())) none fun d11 ↦
 bif d11 then
 optC (G_cfg_vars (a2, ())) none fun d12 ↦
 optC (G_cf_act (d12, ((), (a1.1, a1.2, ()), ()), ())) none fun d13 ↦ some !d13
 else some false
 else some false
 else some false
 else some false
 else some false
 else some false
 else some false
 else
 optC (G_cfg_isIn (a2.1, 1, 14, ())) none fun d4 ↦
 bif d4 then
 optC (G_cfg_named (a2, ())) none fun d5 ↦
 bif
 d5.1 == a2.1 &&
 (d5.2.1 == a2.2.1 &&
 (d5.2.2.1 == a2.2.2.1 &&
 (d5.2.2.2.1 == a2.2.2.2.1 &&
 (d5.2.2.2.2.1 == a2.2.2.2.2.1 &&
 (d5.2.2.2.2.2.1 == a2.2.2.2.2.2.1 &&
 (d5.2.2.2.2.2.2.1 == a2.2.2.2.2.2.2.1 &&
 (d5.2.2.2.2.2.2.2.1 == a2.2.2.2.2.2.2.2.1 && d5.2.2.2.2.2.2.2.2 == a2.2.2.2.2.2.2.2.2))))))) then
 optC (G_cfg_isIn (a2.2.2.2.2.2.2.2.1, 0, Go.IntKind.i64.wrap ((↑(List.length a1.2) : Int) - 1), ())) none fun d6 ↦
 bif d6 then
 optC (G_cfg_isIn (a2.2.2.2.2.2.2.2.2, 0, Go.IntKind.i64.wrap ((↑(List.length a1.2) : Int) - 1), ())) none fun d7 ↦
 bif d7 then
 optC (G_num_Fits ([a2.2.2.2.2.2.1], ())) none fun d8 ↦
 bif d8 then
 optC (G_cfg_isIn (a2.2.2.2.2.2.2.1, if (1 : Int) < 0 then 1 else 0, 0, ())) none fun d9 ↦
 bif d9 then
 optC (G_cfg_shared (a0, a2.1, ())) none fun d10 ↦
 optC (G_cfg_isIn (a2.2.2.2.2.1, 0, Go.IntKind.i64.wrap (d10 - 1), ())) none fun d11 ↦
 bif d11 then
 optC (G_cfg_vars (a2, ())) none fun d12 ↦
 optC (G_cf_act (d12, ((), (a1.1, a1.2, ()), ()), ())) none fun d13 ↦ some !d13
 else some false
 else some false
 else some false
 else some false
 else some false
 else some false
 else some false
theorem raw_cfg_isAct (a0 : U) (a1 : C) (a2 : A) : evGX (cxU sp_cfg_isAct [] 40 1048576) keeps 8 110 ash_cfg_isAct (.dat .bool) ((a0, a1, a2, ()) : (U × (C × (A × Unit)))) = g_cfg_isAct a0 a1 a2 := by kernel_rfl
noncomputable def G_cfg_isAct (x : (U × (C × (A × Unit)))) : Option Bool := g_cfg_isAct x.1 x.2.1 x.2.2.1
noncomputable def con_cfg_isAct : List AV → Prog AV := conP true ash_cfg_isAct (.dat .bool) G_cfg_isAct
theorem snd_cfg_isAct : SoundA Tryz.prog 110 con_cfg_isAct := conP_sound (calU sp_cfg_isAct [] 40 1048576 8 110) true (by rfl) (by rfl) (fun x r e => (evGX_eq _ _ _ _ _ _ _).trans ((raw_cfg_isAct x.1 x.2.1 x.2.2.1).trans e)) (.inl rfl)
end Go.Proofs.YtmjbedjnojcmfaaGreatDoor.Ex

namespace Go.Proofs.YtmjbedjnojcmfaaGreatDoor.Ex
open Go.Proofs Go.Proofs.YtmjbedjnojcmfaaGreatDoor
set_option maxRecDepth 100000
set_option maxHeartbeats 2000000
set_option linter.unusedVariables false
set_option linter.unusedSimpArgs false
abbrev ty_94_0 : Type := ((List A) × ((Unit × (((List Int) × ((List Int) × (Int × ((List C) × Unit)))) × ((Int × ((List A) × Unit)) × Unit))) × Unit))
abbrev ty_94_1 : Type := ((List A) × (List Int) × (List Int) × Int × (List C) × Int × (List A) × Int × Int)
def ash_cf_code : List Sh := [.dat (.sl tA), .clo 109 [] [.view [.sln (.int .i64), .sln (.int .i64), .int .i64, .sln tC] 0, .view [.int .i64, .sln tA] 0]]
def kp_cf_code_136_0 : Nat → List Nat := fun c => bif c.beq 0 then [0, 1, 7, 8] else [4]
noncomputable def sp_cf_code : List Con := [⟨110, con_cfg_isAct, snd_cfg_isAct⟩]
def s_cf_code_136_0_0 : StS := ⟨[(0, .sl tA), (1, .clo 109 [] [.view [.sl (.int .i64), .sl (.int .i64), .int .i64, .sl tC] 0, .view [.int .i64, .sl tA] 0]), (7, .int .i64), (8, .int .i64)], [], 0⟩
def x_cf_code_136_0_0_0 : StS := ⟨[(4, .undef)], [], 0⟩
def x_cf_code_136_0_0_1 : StS := ⟨[(4, .int .i64)], [], 0⟩
abbrev X_cf_code_136_0_0 := ty_94_1
def fl_cf_code_136_0_0 (d : StD s_cf_code_136_0_0) : X_cf_code_136_0_0 := (d.1.1, d.1.2.1.2.1.1, d.1.2.1.2.1.2.1, d.1.2.1.2.1.2.2.1, d.1.2.1.2.1.2.2.2.1, d.1.2.1.2.2.1.1, d.1.2.1.2.2.1.2.1, d.1.2.2.1, d.1.2.2.2.1)
def un_cf_code_136_0_0 (x : X_cf_code_136_0_0) : StD s_cf_code_136_0_0 := ((x.1, ((), ((x.2.1, x.2.2.1, x.2.2.2.1, x.2.2.2.2.1, ()), (x.2.2.2.2.2.1, x.2.2.2.2.2.2.1, ()), ())), x.2.2.2.2.2.2.2.1, x.2.2.2.2.2.2.2.2, ()), ())
abbrev X_cf_code_136_0_0_0 := Unit
def fl_cf_code_136_0_0_0 (d : StD x_cf_code_136_0_0_0) : X_cf_code_136_0_0_0 := ()
def un_cf_code_136_0_0_0 (x : X_cf_code_136_0_0_0) : StD x_cf_code_136_0_0_0 := (((), ()), ())
abbrev X_cf_code_136_0_0_1 := Int
def fl_cf_code_136_0_0_1 (d : StD x_cf_code_136_0_0_1) : X_cf_code_136_0_0_1 := (d.1.1)
def un_cf_code_136_0_0_1 (x : X_cf_code_136_0_0_1) : StD x_cf_code_136_0_0_1 := ((x, ()), ())
noncomputable def st_cf_code_136_0_0 (s0 : (List A)) (s1 : (List Int)) (s1_1 : (List Int)) (s1_2 : Int) (s1_3 : (List C)) (s1_4 : Int) (s1_5 : (List A)) (s7 : Int) (s8 : Int) : Option (ty_94_1 ⊕ (Unit ⊕ Int)) :=
  bif decide (s8 < s7) then
 bif decide (0 ≤ s8) then
 optC s0[s8.toNat]? none fun d11 ↦
 optC (G_cfg_isAct ((s1, s1_1, s1_2, s1_3), (s1_4, s1_5), d11, ())) none fun d12 ↦
 bif !d12 then some (Sum.inr (Sum.inr s8)) else some (Sum.inl (s0, s1, s1_1, s1_2, s1_3, s1_4, s1_5, s7, Go.IntKind.i64.wrap (s8 + 1)))
 else none
 else some (Sum.inr (Sum.inl PUnit.unit))
noncomputable def sx_cf_code_136_0_0 (x : X_cf_code_136_0_0) : Option (X_cf_code_136_0_0 ⊕ (X_cf_code_136_0_0_0 ⊕ X_cf_code_136_0_0_1)) := st_cf_code_136_0_0 x.1 x.2.1 x.2.2.1 x.2.2.2.1 x.2.2.2.2.1 x.2.2.2.2.2.1 x.2.2.2.2.2.2.1 x.2.2.2.2.2.2.2.1 x.2.2.2.2.2.2.2.2
theorem rn_cf_code_136_0_0 (x : X_cf_code_136_0_0) : rdX (cxU sp_cf_code [] 40 (1048576 ^ 9)) keeps 8 ⟨136, 19, keeps 136, 0⟩ 0 (bodyX 136 0) 0 kp_cf_code_136_0 (sT s_cf_code_136_0_0 (un_cf_code_136_0_0 x)) (sH s_cf_code_136_0_0 (un_cf_code_136_0_0 x)) (rdO (fun T h => (rdS s_cf_code_136_0_0 T h).map fl_cf_code_136_0_0) (getOr (getE 2 x_cf_code_136_0_0_0 fl_cf_code_136_0_0_0) (getE 1 x_cf_code_136_0_0_1 fl_cf_code_136_0_0_1))) = sx_cf_code_136_0_0 x := by kernel_rfl
noncomputable def L_cf_code_136_0_0 (x : X_cf_code_136_0_0) : Option (X_cf_code_136_0_0_0 ⊕ X_cf_code_136_0_0_1) := iterO (fun x => st_cf_code_136_0_0 x.1 x.2.1 x.2.2.1 x.2.2.2.1 x.2.2.2.2.1 x.2.2.2.2.2.1 x.2.2.2.2.2.2.1 x.2.2.2.2.2.2.2.1 x.2.2.2.2.2.2.2.2) FUEL x
noncomputable def q_cf_code_136_0 : Nat → Tm → Prog (Nat × Tm) := (varP 0 (fun T h => (rdS s_cf_code_136_0_0 T h).map fl_cf_code_136_0_0) L_cf_code_136_0_0 (fun y => .alt y (altE 2 x_cf_code_136_0_0_0 un_cf_code_136_0_0_0) (altE 1 x_cf_code_136_0_0_1 un_cf_code_136_0_0_1)) (fun _ _ => .fail))
noncomputable def lc_cf_code_136_0 : Lpc := ⟨136, 0, 19, (fun base T => .norm base (kp_cf_code_136_0 0) T (q_cf_code_136_0 base)), by kernel_rfl, by kernel_rfl, (loopU sp_cf_code [] 40 (1048576 ^ 9) 8 (keep := kp_cf_code_136_0) (q := q_cf_code_136_0) (by kernel_rfl) (varX_ok (s := s_cf_code_136_0_0) (un := un_cf_code_136_0_0) (by rfl) (fun _ => rfl) (getOr_ok (getE_ok (s := x_cf_code_136_0_0_0) (un := un_cf_code_136_0_0_0) (by rfl) (fun _ => rfl)) (getE_ok (s := x_cf_code_136_0_0_1) (un := un_cf_code_136_0_0_1) (by rfl) (fun _ => rfl))) (step := sx_cf_code_136_0_0) rn_cf_code_136_0_0 (fun _ _ e => ⟨_, e⟩) (altOr_ok (altE_ok 2 x_cf_code_136_0_0_0 un_cf_code_136_0_0_0) (altE_ok 1 x_cf_code_136_0_0_1 un_cf_code_136_0_0_1)) (VarOk.fail _ _)))⟩
noncomputable def g_cf_code (a0 : (List A)) (a1 : (List Int)) (a2 : (List Int)) (a3 : Int) (a4 : (List C)) (a5 : Int) (a6 : (List A)) : Option Bool :=
  optC (L_cf_code_136_0_0 (a0, a1, a2, a3, a4, a5, a6, (↑a0.length : Int), 0)) none fun d9 ↦
 Sum.elim (fun e10 ↦ some (decide (-1 ≥ 0))) (fun e10 ↦ some (decide (e10 ≥ 0))) d9
theorem raw_cf_code (a0 : (List A)) (a1 : (List Int)) (a2 : (List Int)) (a3 : Int) (a4 : (List C)) (a5 : Int) (a6 : (List A)) : evGX (cxU sp_cf_code [lc_cf_code_136_0] 40 (1048576 ^ 9)) keeps 8 108 ash_cf_code (.dat .bool) ((a0, ((), ((a1, a2, a3, a4, ()), (a5, a6, ()), ())), ()) : ty_94_0) = g_cf_code a0 a1 a2 a3 a4 a5 a6 := by kernel_rfl
noncomputable def G_cf_code (x : ty_94_0) : Option Bool := g_cf_code x.1 x.2.1.2.1.1 x.2.1.2.1.2.1 x.2.1.2.1.2.2.1 x.2.1.2.1.2.2.2.1 x.2.1.2.2.1.1 x.2.1.2.2.1.2.1
noncomputable def con_cf_code : List AV → Prog AV := conP true ash_cf_code (.dat .bool) G_cf_code
theorem snd_cf_code : SoundA Tryz.prog 108 con_cf_code := conP_sound (calU sp_cf_code [lc_cf_code_136_0] 40 (1048576 ^ 9) 8 108) true (by rfl) (by rfl) (fun x r e => (evGX_eq _ _ _ _ _ _ _).trans ((raw_cf_code x.1 x.2.1.2.1.1 x.2.1.2.1.2.1 x.2.1.2.1.2.2.1 x.2.1.2.1.2.2.2.1 x.2.1.2.2.1.1 x.2.1.2.2.1.2.1).trans e)) (.inl rfl)
end Go.Proofs.YtmjbedjnojcmfaaGreatDoor.Ex

namespace Go.Proofs.YtmjbedjnojcmfaaGreatDoor.Ex
open Go.Proofs Go.Proofs.YtmjbedjnojcmfaaGreatDoor
set_option maxRecDepth 100000
set_option maxHeartbeats 2000000
set_option linter.unusedVariables false
set_option linter.unusedSimpArgs false
def ash_cfg_isCode : List Sh := [.dat tU, .dat tC]
noncomputable def sp_cfg_isCode : List Con := [⟨56, con_cfg_isIn, snd_cfg_isIn⟩, ⟨108, con_cf_code, snd_cf_code⟩, ⟨110, con_cfg_isAct, snd_cfg_isAct⟩]
noncomputable def g_cfg_isCode (a0 : U) (a1 : C) : Option Bool :=
  optC (G_cfg_isIn (a1.1, 0, 40, ())) none fun d3 ↦
 bif d3 then
 optC (G_cfg_isIn ((↑(List.length a1.2) : Int), 1, 60, ())) none fun d4 ↦
 bif d4 then
 bif decide (0 ≤ Go.IntKind.i64.wrap ((↑(List.length a1.2) : Int) - 1)) then
 optC a1.2[(Go.IntKind.i64.wrap ((↑(List.length a1.2) : Int) - 1)).toNat]? none fun d5 ↦
 bif d5.1 == 14 then
 optC (G_cf_code (a1.2, ((), (a0.1, a0.2.1, a0.2.2.1, a0.2.2.2, ()), (a1.1, a1.2, ()), ()), ())) none fun d6 ↦ some !d6
 else some false
 else none
 else some false
 else some false
theorem raw_cfg_isCode (a0 : U) (a1 : C) : evGX (cxU sp_cfg_isCode [] 40 1048576) keeps 8 61 ash_cfg_isCode (.dat .bool) ((a0, a1, ()) : (U × (C × Unit))) = g_cfg_isCode a0 a1 := by kernel_rfl
noncomputable def G_cfg_isCode (x : (U × (C × Unit))) : Option Bool := g_cfg_isCode x.1 x.2.1
noncomputable def con_cfg_isCode : List AV → Prog AV := conP true ash_cfg_isCode (.dat .bool) G_cfg_isCode
theorem snd_cfg_isCode : SoundA Tryz.prog 61 con_cfg_isCode := conP_sound (calU sp_cfg_isCode [] 40 1048576 8 61) true (by rfl) (by rfl) (fun x r e => (evGX_eq _ _ _ _ _ _ _).trans ((raw_cfg_isCode x.1 x.2.1).trans e)) (.inl rfl)
end Go.Proofs.YtmjbedjnojcmfaaGreatDoor.Ex

namespace Go.Proofs.YtmjbedjnojcmfaaGreatDoor.Ex
open Go.Proofs Go.Proofs.YtmjbedjnojcmfaaGreatDoor
set_option maxRecDepth 100000
set_option maxHeartbeats 2000000
set_option linter.unusedVariables false
set_option linter.unusedSimpArgs false
abbrev ty_96_0 : Type := ((List C) × ((Unit × (((List Int) × ((List Int) × (Int × ((List C) × Unit)))) × Unit)) × Unit))
def ash_cf_thr : List Sh := [.dat (.sl tC), .clo 60 [] [.view [.sln (.int .i64), .sln (.int .i64), .int .i64, .sln tC] 0]]
def kp_cf_thr_107_0 : Nat → List Nat := fun c => bif c.beq 0 then [0, 1, 7, 8] else [4]
noncomputable def sp_cf_thr : List Con := [⟨61, con_cfg_isCode, snd_cfg_isCode⟩]
def s_cf_thr_107_0_0 : StS := ⟨[(0, .sl tC), (1, .clo 60 [] [.view [.sl (.int .i64), .sl (.int .i64), .int .i64, .sl tC] 0]), (7, .int .i64), (8, .int .i64)], [], 0⟩
def x_cf_thr_107_0_0_0 : StS := ⟨[(4, .undef)], [], 0⟩
def x_cf_thr_107_0_0_1 : StS := ⟨[(4, .int .i64)], [], 0⟩
abbrev X_cf_thr_107_0_0 := ((List C) × (List Int) × (List Int) × Int × (List C) × Int × Int)
def fl_cf_thr_107_0_0 (d : StD s_cf_thr_107_0_0) : X_cf_thr_107_0_0 := (d.1.1, d.1.2.1.2.1.1, d.1.2.1.2.1.2.1, d.1.2.1.2.1.2.2.1, d.1.2.1.2.1.2.2.2.1, d.1.2.2.1, d.1.2.2.2.1)
def un_cf_thr_107_0_0 (x : X_cf_thr_107_0_0) : StD s_cf_thr_107_0_0 := ((x.1, ((), ((x.2.1, x.2.2.1, x.2.2.2.1, x.2.2.2.2.1, ()), ())), x.2.2.2.2.2.1, x.2.2.2.2.2.2, ()), ())
abbrev X_cf_thr_107_0_0_0 := Unit
def fl_cf_thr_107_0_0_0 (d : StD x_cf_thr_107_0_0_0) : X_cf_thr_107_0_0_0 := ()
def un_cf_thr_107_0_0_0 (x : X_cf_thr_107_0_0_0) : StD x_cf_thr_107_0_0_0 := (((), ()), ())
abbrev X_cf_thr_107_0_0_1 := Int
def fl_cf_thr_107_0_0_1 (d : StD x_cf_thr_107_0_0_1) : X_cf_thr_107_0_0_1 := (d.1.1)
def un_cf_thr_107_0_0_1 (x : X_cf_thr_107_0_0_1) : StD x_cf_thr_107_0_0_1 := ((x, ()), ())
noncomputable def st_cf_thr_107_0_0 (s0 : (List C)) (s1 : (List Int)) (s1_1 : (List Int)) (s1_2 : Int) (s1_3 : (List C)) (s7 : Int) (s8 : Int) : Option (((List C) × (List Int) × (List Int) × Int × (List C) × Int × Int) ⊕ (Unit ⊕ Int)) :=
  bif decide (s8 < s7) then
 bif decide (0 ≤ s8) then
 optC s0[s8.toNat]? none fun d9 ↦
 optC (G_cfg_isCode ((s1, s1_1, s1_2, s1_3), d9, ())) none fun d10 ↦
 bif !d10 then some (Sum.inr (Sum.inr s8)) else some (Sum.inl (s0, s1, s1_1, s1_2, s1_3, s7, Go.IntKind.i64.wrap (s8 + 1)))
 else none
 else some (Sum.inr (Sum.inl PUnit.unit))
noncomputable def sx_cf_thr_107_0_0 (x : X_cf_thr_107_0_0) : Option (X_cf_thr_107_0_0 ⊕ (X_cf_thr_107_0_0_0 ⊕ X_cf_thr_107_0_0_1)) := st_cf_thr_107_0_0 x.1 x.2.1 x.2.2.1 x.2.2.2.1 x.2.2.2.2.1 x.2.2.2.2.2.1 x.2.2.2.2.2.2
theorem rn_cf_thr_107_0_0 (x : X_cf_thr_107_0_0) : rdX (cxU sp_cf_thr [] 40 (1048576 ^ 9)) keeps 8 ⟨107, 19, keeps 107, 0⟩ 0 (bodyX 107 0) 0 kp_cf_thr_107_0 (sT s_cf_thr_107_0_0 (un_cf_thr_107_0_0 x)) (sH s_cf_thr_107_0_0 (un_cf_thr_107_0_0 x)) (rdO (fun T h => (rdS s_cf_thr_107_0_0 T h).map fl_cf_thr_107_0_0) (getOr (getE 2 x_cf_thr_107_0_0_0 fl_cf_thr_107_0_0_0) (getE 1 x_cf_thr_107_0_0_1 fl_cf_thr_107_0_0_1))) = sx_cf_thr_107_0_0 x := by kernel_rfl
noncomputable def L_cf_thr_107_0_0 (x : X_cf_thr_107_0_0) : Option (X_cf_thr_107_0_0_0 ⊕ X_cf_thr_107_0_0_1) := iterO (fun x => st_cf_thr_107_0_0 x.1 x.2.1 x.2.2.1 x.2.2.2.1 x.2.2.2.2.1 x.2.2.2.2.2.1 x.2.2.2.2.2.2) FUEL x
noncomputable def q_cf_thr_107_0 : Nat → Tm → Prog (Nat × Tm) := (varP 0 (fun T h => (rdS s_cf_thr_107_0_0 T h).map fl_cf_thr_107_0_0) L_cf_thr_107_0_0 (fun y => .alt y (altE 2 x_cf_thr_107_0_0_0 un_cf_thr_107_0_0_0) (altE 1 x_cf_thr_107_0_0_1 un_cf_thr_107_0_0_1)) (fun _ _ => .fail))
noncomputable def lc_cf_thr_107_0 : Lpc := ⟨107, 0, 19, (fun base T => .norm base (kp_cf_thr_107_0 0) T (q_cf_thr_107_0 base)), by kernel_rfl, by kernel_rfl, (loopU sp_cf_thr [] 40 (1048576 ^ 9) 8 (keep := kp_cf_thr_107_0) (q := q_cf_thr_107_0) (by kernel_rfl) (varX_ok (s := s_cf_thr_107_0_0) (un := un_cf_thr_107_0_0) (by rfl) (fun _ => rfl) (getOr_ok (getE_ok (s := x_cf_thr_107_0_0_0) (un := un_cf_thr_107_0_0_0) (by rfl) (fun _ => rfl)) (getE_ok (s := x_cf_thr_107_0_0_1) (un := un_cf_thr_107_0_0_1) (by rfl) (fun _ => rfl))) (step := sx_cf_thr_107_0_0) rn_cf_thr_107_0_0 (fun _ _ e => ⟨_, e⟩) (altOr_ok (altE_ok 2 x_cf_thr_107_0_0_0 un_cf_thr_107_0_0_0) (altE_ok 1 x_cf_thr_107_0_0_1 un_cf_thr_107_0_0_1)) (VarOk.fail _ _)))⟩
noncomputable def g_cf_thr (a0 : (List C)) (a1 : (List Int)) (a2 : (List Int)) (a3 : Int) (a4 : (List C)) : Option Bool :=
  optC (L_cf_thr_107_0_0 (a0, a1, a2, a3, a4, (↑a0.length : Int), 0)) none fun d7 ↦
 Sum.elim (fun e8 ↦ some (decide (-1 ≥ 0))) (fun e8 ↦ some (decide (e8 ≥ 0))) d7
theorem raw_cf_thr (a0 : (List C)) (a1 : (List Int)) (a2 : (List Int)) (a3 : Int) (a4 : (List C)) : evGX (cxU sp_cf_thr [lc_cf_thr_107_0] 40 (1048576 ^ 9)) keeps 8 59 ash_cf_thr (.dat .bool) ((a0, ((), ((a1, a2, a3, a4, ()), ())), ()) : ty_96_0) = g_cf_thr a0 a1 a2 a3 a4 := by kernel_rfl
noncomputable def G_cf_thr (x : ty_96_0) : Option Bool := g_cf_thr x.1 x.2.1.2.1.1 x.2.1.2.1.2.1 x.2.1.2.1.2.2.1 x.2.1.2.1.2.2.2.1
noncomputable def con_cf_thr : List AV → Prog AV := conP true ash_cf_thr (.dat .bool) G_cf_thr
theorem snd_cf_thr : SoundA Tryz.prog 59 con_cf_thr := conP_sound (calU sp_cf_thr [lc_cf_thr_107_0] 40 (1048576 ^ 9) 8 59) true (by rfl) (by rfl) (fun x r e => (evGX_eq _ _ _ _ _ _ _).trans ((raw_cf_thr x.1 x.2.1.2.1.1 x.2.1.2.1.2.1 x.2.1.2.1.2.2.1 x.2.1.2.1.2.2.2.1).trans e)) (.inl rfl)
end Go.Proofs.YtmjbedjnojcmfaaGreatDoor.Ex

namespace Go.Proofs.YtmjbedjnojcmfaaGreatDoor.Ex
open Go.Proofs Go.Proofs.YtmjbedjnojcmfaaGreatDoor
set_option maxRecDepth 100000
set_option maxHeartbeats 2000000
set_option linter.unusedVariables false
set_option linter.unusedSimpArgs false
def ash_cfg_Is : List Sh := [.dat tU]
noncomputable def sp_cfg_Is : List Con := [⟨55, con_num_Fits, snd_num_Fits⟩, ⟨56, con_cfg_isIn, snd_cfg_isIn⟩, ⟨57, (pickS (isClo 1 140) con_cf_act con_cf_arr), (SoundA.pick (isClo 1 140) snd_cf_act snd_cf_arr)⟩, ⟨59, con_cf_thr, snd_cf_thr⟩, ⟨61, con_cfg_isCode, snd_cfg_isCode⟩]
noncomputable def g_cfg_Is (a0 : U) : Option Bool :=
  bif decide ((↑(List.length a0.1) : Int) ≤ 6) then
 optC (G_num_Fits (a0.1, ())) none fun d2 ↦
 bif d2 then
 bif decide ((↑(List.length a0.2.1) : Int) ≤ 3) then
 optC (G_cfg_isIn (a0.2.2.1, 0, 6, ())) none fun d3 ↦
 bif d3 then
 optC (G_cfg_isIn ((↑(List.length a0.2.2.2) : Int), 1, 4, ())) none fun d4 ↦
 bif d4 then
 optC (G_cf_arr (a0.2.1, ((), ()), ())) none fun d5 ↦
 bif !d5 then optC (G_cf_thr (a0.2.2.2, ((), (a0.1, a0.2.1, a0.2.2.1, a0.2.2.2, ()), ()), ())) none fun d6 ↦ some !d6
 else some false
 else some false
 else some false
 else some false
 else some false
 else some false
theorem raw_cfg_Is (a0 : U) : evGX (cxU sp_cfg_Is [] 40 1048576) keeps 8 26 ash_cfg_Is (.dat .bool) ((a0, ()) : (U × Unit)) = g_cfg_Is a0 := by kernel_rfl
noncomputable def G_cfg_Is (x : (U × Unit)) : Option Bool := g_cfg_Is x.1
noncomputable def con_cfg_Is : List AV → Prog AV := conP true ash_cfg_Is (.dat .bool) G_cfg_Is
theorem snd_cfg_Is : SoundA Tryz.prog 26 con_cfg_Is := conP_sound (calU sp_cfg_Is [] 40 1048576 8 26) true (by rfl) (by rfl) (fun x r e => (evGX_eq _ _ _ _ _ _ _).trans ((raw_cfg_Is x.1).trans e)) (.inl rfl)
end Go.Proofs.YtmjbedjnojcmfaaGreatDoor.Ex

namespace Go.Proofs.YtmjbedjnojcmfaaGreatDoor.Ex
open Go.Proofs Go.Proofs.YtmjbedjnojcmfaaGreatDoor
set_option maxRecDepth 100000
set_option maxHeartbeats 2000000
set_option linter.unusedVariables false
set_option linter.unusedSimpArgs false
def ash_check_fits : List Sh := [.dat tPg]
def kp_check_fits_124_0 : Nat → List Nat := fun c => bif c.beq 0 then [0, 1, 7, 8] else [4]
noncomputable def sp_check_fits : List Con := []
def s_check_fits_124_0_0 : StS := ⟨[(0, .sl tTh), (1, .clo 90 [] [.ptr 1 0]), (7, .int .i64), (8, .int .i64)], [(1, .box [.clo 77 [] []]), (0, .box [.sl tGb, .sl tGb, .sl .str, .sl tTh])], 2⟩
def x_check_fits_124_0_0_0 : StS := ⟨[(4, .undef)], [(1, .box [.clo 77 [] []]), (0, .box [.sl tGb, .sl tGb, .sl .str, .sl tTh])], 2⟩
def x_check_fits_124_0_0_1 : StS := ⟨[(4, .int .i64)], [(1, .box [.clo 77 [] []]), (0, .box [.sl tGb, .sl tGb, .sl .str, .sl tTh])], 2⟩
abbrev X_check_fits_124_0_0 := ((List Th) × Int × Int × (List Gb) × (List Gb) × (List ByteArray) × (List Th))
def fl_check_fits_124_0_0 (d : StD s_check_fits_124_0_0) : X_check_fits_124_0_0 := (d.1.1, d.1.2.2.1, d.1.2.2.2.1, d.2.2.1.1, d.2.2.1.2.1, d.2.2.1.2.2.1, d.2.2.1.2.2.2.1)
def un_check_fits_124_0_0 (x : X_check_fits_124_0_0) : StD s_check_fits_124_0_0 := ((x.1, ((), ((), ())), x.2.1, x.2.2.1, ()), ((((), ()), ()), (x.2.2.2.1, x.2.2.2.2.1, x.2.2.2.2.2.1, x.2.2.2.2.2.2, ()), ()))
abbrev X_check_fits_124_0_0_0 := ((List Gb) × (List Gb) × (List ByteArray) × (List Th))
def fl_check_fits_124_0_0_0 (d : StD x_check_fits_124_0_0_0) : X_check_fits_124_0_0_0 := (d.2.2.1.1, d.2.2.1.2.1, d.2.2.1.2.2.1, d.2.2.1.2.2.2.1)
def un_check_fits_124_0_0_0 (x : X_check_fits_124_0_0_0) : StD x_check_fits_124_0_0_0 := (((), ()), ((((), ()), ()), (x.1, x.2.1, x.2.2.1, x.2.2.2, ()), ()))
abbrev X_check_fits_124_0_0_1 := (Int × (List Gb) × (List Gb) × (List ByteArray) × (List Th))
def fl_check_fits_124_0_0_1 (d : StD x_check_fits_124_0_0_1) : X_check_fits_124_0_0_1 := (d.1.1, d.2.2.1.1, d.2.2.1.2.1, d.2.2.1.2.2.1, d.2.2.1.2.2.2.1)
def un_check_fits_124_0_0_1 (x : X_check_fits_124_0_0_1) : StD x_check_fits_124_0_0_1 := ((x.1, ()), ((((), ()), ()), (x.2.1, x.2.2.1, x.2.2.2.1, x.2.2.2.2, ()), ()))
noncomputable def st_check_fits_124_0_0 (s0 : (List Th)) (s7 : Int) (s8 : Int) (b0 : (List Gb)) (b0_1 : (List Gb)) (b0_2 : (List ByteArray)) (b0_3 : (List Th)) : Option (((List Th) × Int × Int × (List Gb) × (List Gb) × (List ByteArray) × (List Th)) ⊕ (((List Gb) × (List Gb) × (List ByteArray) × (List Th)) ⊕ (Int × (List Gb) × (List Gb) × (List ByteArray) × (List Th)))) :=
  bif decide (s8 < s7) then
 bif decide (0 ≤ s8) then
 optC s0[s8.toNat]? none fun d9 ↦
 bif !decide ((↑(List.length d9.2.1) : Int) ≤ 6) then some (Sum.inr (Sum.inr (s8, b0, b0_1, b0_2, b0_3)))
 else some (Sum.inl (s0, s7, Go.IntKind.i64.wrap (s8 + 1), b0, b0_1, b0_2, b0_3))
 else none
 else some (Sum.inr (Sum.inl (b0, b0_1, b0_2, b0_3)))
noncomputable def sx_check_fits_124_0_0 (x : X_check_fits_124_0_0) : Option (X_check_fits_124_0_0 ⊕ (X_check_fits_124_0_0_0 ⊕ X_check_fits_124_0_0_1)) := st_check_fits_124_0_0 x.1 x.2.1 x.2.2.1 x.2.2.2.1 x.2.2.2.2.1 x.2.2.2.2.2.1 x.2.2.2.2.2.2
theorem rn_check_fits_124_0_0 (x : X_check_fits_124_0_0) : rdX (cxU sp_check_fits [] 40 1048576) keeps 8 ⟨124, 19, keeps 124, 2⟩ 0 (bodyX 124 0) 2 kp_check_fits_124_0 (sT s_check_fits_124_0_0 (un_check_fits_124_0_0 x)) (sH s_check_fits_124_0_0 (un_check_fits_124_0_0 x)) (rdO (fun T h => (rdS s_check_fits_124_0_0 T h).map fl_check_fits_124_0_0) (getOr (getE 2 x_check_fits_124_0_0_0 fl_check_fits_124_0_0_0) (getE 1 x_check_fits_124_0_0_1 fl_check_fits_124_0_0_1))) = sx_check_fits_124_0_0 x := by kernel_rfl
noncomputable def L_check_fits_124_0_0 (x : X_check_fits_124_0_0) : Option (X_check_fits_124_0_0_0 ⊕ X_check_fits_124_0_0_1) := iterO (fun x => st_check_fits_124_0_0 x.1 x.2.1 x.2.2.1 x.2.2.2.1 x.2.2.2.2.1 x.2.2.2.2.2.1 x.2.2.2.2.2.2) FUEL x
noncomputable def q_check_fits_124_0 : Nat → Tm → Prog (Nat × Tm) := (varP 2 (fun T h => (rdS s_check_fits_124_0_0 T h).map fl_check_fits_124_0_0) L_check_fits_124_0_0 (fun y => .alt y (altE 2 x_check_fits_124_0_0_0 un_check_fits_124_0_0_0) (altE 1 x_check_fits_124_0_0_1 un_check_fits_124_0_0_1)) (fun _ _ => .fail))
noncomputable def lc_check_fits_124_0 : Lpc := ⟨124, 0, 19, (fun base T => .norm base (kp_check_fits_124_0 0) T (q_check_fits_124_0 base)), by kernel_rfl, by kernel_rfl, (loopU sp_check_fits [] 40 1048576 8 (keep := kp_check_fits_124_0) (q := q_check_fits_124_0) (by kernel_rfl) (varX_ok (s := s_check_fits_124_0_0) (un := un_check_fits_124_0_0) (by rfl) (fun _ => rfl) (getOr_ok (getE_ok (s := x_check_fits_124_0_0_0) (un := un_check_fits_124_0_0_0) (by rfl) (fun _ => rfl)) (getE_ok (s := x_check_fits_124_0_0_1) (un := un_check_fits_124_0_0_1) (by rfl) (fun _ => rfl))) (step := sx_check_fits_124_0_0) rn_check_fits_124_0_0 (fun _ _ e => ⟨_, e⟩) (altOr_ok (altE_ok 2 x_check_fits_124_0_0_0 un_check_fits_124_0_0_0) (altE_ok 1 x_check_fits_124_0_0_1 un_check_fits_124_0_0_1)) (VarOk.fail _ _)))⟩
noncomputable def g_check_fits (a0 : Pg) : Option Bool :=
  bif decide ((↑(List.length a0.1) : Int) ≤ 6) then
 bif decide ((↑(List.length a0.2.1) : Int) ≤ 3) then
 bif decide ((↑(List.length a0.2.2.1) : Int) ≤ 6) then
 bif decide ((↑(List.length a0.2.2.2) : Int) ≤ 4) then
 optC (L_check_fits_124_0_0 (a0.2.2.2, (↑(List.length a0.2.2.2) : Int), 0, a0)) none fun d3 ↦
 Sum.elim (fun e4 ↦ some !decide (-1 ≥ 0)) (fun e4 ↦ some !decide (e4.1 ≥ 0)) d3
 else some false
 else some false
 else some false
 else some false
theorem raw_check_fits (a0 : Pg) : evGX (cxU sp_check_fits [lc_check_fits_124_0] 40 1048576) keeps 8 37 ash_check_fits (.dat .bool) ((a0, ()) : (Pg × Unit)) = g_check_fits a0 := by kernel_rfl
noncomputable def G_check_fits (x : (Pg × Unit)) : Option Bool := g_check_fits x.1
noncomputable def con_check_fits : List AV → Prog AV := conP false ash_check_fits (.dat .bool) G_check_fits
theorem snd_check_fits : SoundA Tryz.prog 37 con_check_fits := conP_sound (calU sp_check_fits [lc_check_fits_124_0] 40 1048576 8 37) false (by rfl) (by rfl) (fun x r e => (evGX_eq _ _ _ _ _ _ _).trans ((raw_check_fits x.1).trans e)) (.inr fun _ => rfl)
end Go.Proofs.YtmjbedjnojcmfaaGreatDoor.Ex

namespace Go.Proofs.YtmjbedjnojcmfaaGreatDoor.Ex
open Go.Proofs Go.Shelf Go.Proofs.YtmjbedjnojcmfaaGreatDoor
def lays137_ren_H : Go.Shelf.Ren := ⟨fun | 137 => 118 | 217 => 154 | 266 => 180 | n => n, fun | 9 => 9 | 5 => 5 | 3 => 3 | n => n, fun | n => n⟩
theorem lays137_H : Go.Proofs.Lays.n137 Tryz.prog lays137_ren_H := {
  mixed := by kernel_rfl
  f137 := Tryz.func118.trans (congrArg some (by kernel_rfl))
  f217 := Tryz.func154.trans (congrArg some (by kernel_rfl))
  f266 := Tryz.func180.trans (congrArg some (by kernel_rfl))
  t3 := Tryz.underlying3
  a3 := Tryz.isAgg3
  z3 := Tryz.sizeOf3
  v3 := Tryz.zeroValue3
  t5 := Tryz.underlying5
  a5 := Tryz.isAgg5
  z5 := Tryz.sizeOf5
  v5 := Tryz.zeroValue5
  t9 := Tryz.underlying9
  a9 := Tryz.isAgg9
  z9 := Tryz.sizeOf9
  v9 := Tryz.zeroValue9 }
open Go.RowKit in
theorem strings_IndexByte_H (s : ByteArray) (c : Int) (w : World) :
    Calls Tryz.prog 118 #[.string s, .int .u8 c] w fun e w' => e = .returned (.int .i64 (Lib.indexByte s.data.toList c.toNat.toUInt8)) ∧ w' = w := Any.strings_IndexByte lays137_H s c w
def lays160_ren_H : Go.Shelf.Ren := ⟨fun | 160 => 119 | 232 => 156 | 231 => 155 | 227 => 157 | 234 => 159 | 233 => 158 | 236 => 161 | 235 => 160 | 228 => 181 | 271 => 184 | 151 => 183 | 197 => 182 | 120 => 191 | 152 => 190 | 260 => 189 | 137 => 118 | 119 => 193 | 224 => 194 | 225 => 195 | 217 => 154 | 266 => 180 | n => n, fun | 9 => 9 | 4 => 4 | 3 => 3 | 5 => 5 | 117 => 167 | 116 => 166 | 0 => 0 | 124 => 170 | 21 => 21 | 105 => 187 | 46 => 134 | 119 => 198 | 139 => 201 | 138 => 200 | n => n, fun | 3 => 1 | 4 => 2 | n => n⟩
theorem lays160_H : Go.Proofs.Lays.n160 Tryz.prog lays160_ren_H := {
  mixed := by kernel_rfl
  f119 := Tryz.func193.trans (congrArg some (by kernel_rfl))
  f120 := Tryz.func191.trans (congrArg some (by kernel_rfl))
  f137 := Tryz.func118.trans (congrArg some (by kernel_rfl))
  f151 := Tryz.func183.trans (congrArg some (by kernel_rfl))
  f152 := Tryz.func190.trans (congrArg some (by kernel_rfl))
  f160 := Tryz.func119.trans (congrArg some (by kernel_rfl))
  f197 := Tryz.func182.trans (congrArg some (by kernel_rfl))
  f217 := Tryz.func154.trans (congrArg some (by kernel_rfl))
  f224 := Tryz.func194.trans (congrArg some (by kernel_rfl))
  f225 := Tryz.func195.trans (congrArg some (by kernel_rfl))
  f227 := Tryz.func157.trans (congrArg some (by kernel_rfl))
  f228 := Tryz.func181.trans (congrArg some (by kernel_rfl))
  f231 := Tryz.func155.trans (congrArg some (by kernel_rfl))
  f232 := Tryz.func156.trans (congrArg some (by kernel_rfl))
  f233 := Tryz.func158.trans (congrArg some (by kernel_rfl))
  f234 := Tryz.func159.trans (congrArg some (by kernel_rfl))
  f235 := Tryz.func160.trans (congrArg some (by kernel_rfl))
  f236 := Tryz.func161.trans (congrArg some (by kernel_rfl))
  f260 := Tryz.func189.trans (congrArg some (by kernel_rfl))
  f266 := Tryz.func180.trans (congrArg some (by kernel_rfl))
  f271 := Tryz.func184.trans (congrArg some (by kernel_rfl))
  t0 := Tryz.underlying0
  a0 := Tryz.isAgg0
  z0 := Tryz.sizeOf0
  v0 := Tryz.zeroValue0
  t3 := Tryz.underlying3
  a3 := Tryz.isAgg3
  z3 := Tryz.sizeOf3
  v3 := Tryz.zeroValue3
  t4 := Tryz.underlying4
  a4 := Tryz.isAgg4
  z4 := Tryz.sizeOf4
  v4 := Tryz.zeroValue4
  t5 := Tryz.underlying5
  a5 := Tryz.isAgg5
  z5 := Tryz.sizeOf5
  v5 := Tryz.zeroValue5
  t9 := Tryz.underlying9
  a9 := Tryz.isAgg9
  z9 := Tryz.sizeOf9
  v9 := Tryz.zeroValue9
  t21 := Tryz.underlying21
  a21 := Tryz.isAgg21
  z21 := Tryz.sizeOf21
  v21 := Tryz.zeroValue21
  t46 := Tryz.underlying134
  a46 := Tryz.isAgg134
  z46 := Tryz.sizeOf134
  v46 := Tryz.zeroValue134
  t105 := Tryz.underlying187
  a105 := Tryz.isAgg187
  z105 := Tryz.sizeOf187
  v105 := Tryz.zeroValue187
  t116 := Tryz.underlying166
  a116 := Tryz.isAgg166
  z116 := Tryz.sizeOf166
  t117 := Tryz.underlying167
  a117 := Tryz.isAgg167
  z117 := Tryz.sizeOf167
  v117 := Tryz.zeroValue167
  t119 := Tryz.underlying198
  a119 := Tryz.isAgg198
  z119 := Tryz.sizeOf198
  t124 := Tryz.underlying170
  a124 := Tryz.isAgg170
  z124 := Tryz.sizeOf170
  v124 := Tryz.zeroValue170
  t138 := Tryz.underlying200
  a138 := Tryz.isAgg200
  z138 := Tryz.sizeOf200
  v138 := Tryz.zeroValue200
  t139 := Tryz.underlying201
  a139 := Tryz.isAgg201
  z139 := Tryz.sizeOf201
  v139 := Tryz.zeroValue201
  g3 := by kernel_rfl
  g4 := by kernel_rfl }
open Go.RowKit in
theorem strings_Trim_H (s c : ByteArray) (w : World) (hs : s.size ≤ 9223372036854775807) (hc : c.size < 4294967281) (ha : ∀ (j : Nat) b, c.data.toList[j]? = some b → b.toNat < 128) :
    Calls Tryz.prog 119 #[.string s, .string c] w fun e w' => e = .returned (.string ⟨(Lib.trimS s.data.toList c.data.toList).toArray⟩) ∧ Below w.heap.size w w' := Any.strings_Trim_laid lays160_H (by kernel_rfl) s c w hs hc ha
end Go.Proofs.YtmjbedjnojcmfaaGreatDoor.Ex

namespace Go.Proofs.YtmjbedjnojcmfaaGreatDoor.Ex
set_option linter.unusedVariables false
set_option linter.unusedSectionVars false
section
variable [RT] {P : Program}
theorem post_below {tr : Bool} {ok : Nat → Prop} {hdr : Nat → Value} {S : Stb} {h : Hp} {w w' : World} (hr : HReal hdr S h.blks w) (hm : Ment ok h.blks) (hb : RowKit.Below w.heap.size w w') : Post tr ok hdr S h w hdr S h w' :=
  ⟨Nat.le_refl _, fun _ _ => rfl, ⟨fun id b hf => (hr.blk id b hf).congr (fun _ _ k => k) rfl (fun _ _ => rfl) fun n hn => hb.block n ((hr.blk id b hf).lt hn), hr.sep, hr.stb, fun n cs k => let ⟨e, f, q⟩ := hr.mem n cs k; ⟨e, f, (hb.block n (hr.stb_lt k)).trans q⟩⟩,
    ⟨hb.os, hb.tape, hb.output, hb.size, fun n hn _ => hb.block n hn, fun n h => .inl h, fun _ _ k => k, fun _ _ k => .inl k⟩, hm.mono fun _ k => .inl k⟩
def trimV (s c : ByteArray) : ByteArray := ⟨(Lib.trimS s.data.toList c.data.toList).toArray⟩
def trimP (args : List AV) : Prog AV := match args with
  | [.str s, .str c] => .ite (decide (s.size ≤ 9223372036854775807)) (bif leB c.size 1000 && c.data.toList.all (fun b => decide (b.toNat < 128)) then .ret (.str (trimV s c)) else .fail) .fail
  | _ => .fail
theorem trim_sound {g : FuncId} (hcall : Callable P g) (hc : ∀ (s c : ByteArray) (w : World), s.size ≤ 9223372036854775807 → c.size < 4294967281 → (∀ (j : Nat) b, c.data.toList[j]? = some b → b.toNat < 128) →
    Calls P g #[.string s, .string c] w fun e w' => e = .returned (.string ⟨(Lib.trimS s.data.toList c.data.toList).toArray⟩) ∧ RowKit.Below w.heap.size w w') : SoundA P g trimP := by
  intro tr args h ft v h' ft' vals hdr S w ok e hr hm hv hi hO
  refine ⟨hcall, ?_⟩
  unfold trimP at e
  split at e
  case h_2 => exact (ex_fail e).elim
  rename_i s c
  rcases ex_ite e with ⟨h1, e⟩ | ⟨_, e⟩
  case inr => exact (ex_fail e).elim
  have h1 := of_decide_eq_true h1
  rcases ex_cond e with ⟨h2, e⟩ | ⟨_, e⟩
  case inr => exact (ex_fail e).elim
  simp only [Bool.and_eq_true] at h2
  have hcs := leB_iff.1 h2.1
  cases ex_ret e
  cases hv with | cons _ _ _ _ ha hv =>
  cases hv with | cons _ _ _ _ hb hv =>
  cases hv
  cases ha
  cases hb
  refine (hc s c w h1 (by omega) fun j b hj => of_decide_eq_true (List.all_eq_true.1 h2.2 b (List.mem_of_getElem? hj))).mono ?_
  rintro en w' ⟨rfl, hB⟩
  exact ⟨_, hdr, S, rfl, post_below hr hm hB, .str _, fun n hn => by cases hn⟩
def idxBP (args : List AV) : Prog AV := match args with
  | [.str s, .int .u8 c] => .ret (.int .i64 (Lib.indexByte s.data.toList c.toNat.toUInt8))
  | _ => .fail
theorem idxB_sound {g : FuncId} (hcall : Callable P g) (hc : ∀ (s : ByteArray) (c : Int) (w : World), Calls P g #[.string s, .int .u8 c] w fun e w' => e = .returned (.int .i64 (Lib.indexByte s.data.toList c.toNat.toUInt8)) ∧ w' = w) : SoundA P g idxBP := by
  intro tr args h ft v h' ft' vals hdr S w ok e hr hm hv hi hO
  refine ⟨hcall, ?_⟩
  unfold idxBP at e
  split at e
  case h_2 => exact (ex_fail e).elim
  rename_i s c
  cases ex_ret e
  cases hv with | cons _ _ _ _ ha hv =>
  cases hv with | cons _ _ _ _ hb hv =>
  cases hv
  cases ha
  cases hb
  refine (hc s c w).mono ?_
  rintro en w' ⟨rfl, rfl⟩
  exact ⟨_, hdr, S, rfl, Post.refl hr hm, .int _ _, fun n hn => by cases hn⟩
end
end Go.Proofs.YtmjbedjnojcmfaaGreatDoor.Ex

namespace Go.Proofs.YtmjbedjnojcmfaaGreatDoor.Ex
open Go.Proofs Go.Proofs.YtmjbedjnojcmfaaGreatDoor
set_option maxRecDepth 100000
theorem call_Tryz119 : Callable Tryz.prog 119 := by
  have hbody : ∃ c, Tryz.f119.body = some c := ⟨_, rfl⟩
  obtain ⟨c0, hb0⟩ := hbody
  exact fun args w => MuLone.run_callFunc_enter Tryz.func119 (by kernel_rfl) hb0 args w
theorem call_Tryz118 : Callable Tryz.prog 118 := by
  have hbody : ∃ c, Tryz.f118.body = some c := ⟨_, rfl⟩
  obtain ⟨c0, hb0⟩ := hbody
  exact fun args w => MuLone.run_callFunc_enter Tryz.func118 (by kernel_rfl) hb0 args w
noncomputable def con_Trim : List AV → Prog AV := trimP
theorem snd_Trim : SoundA Tryz.prog 119 con_Trim := trim_sound call_Tryz119 fun s c w h1 h2 h3 => strings_Trim_H s c w h1 h2 h3
noncomputable def con_IndexByte : List AV → Prog AV := idxBP
theorem snd_IndexByte : SoundA Tryz.prog 118 con_IndexByte := idxB_sound call_Tryz118 fun s c w => strings_IndexByte_H s c w
end Go.Proofs.YtmjbedjnojcmfaaGreatDoor.Ex

namespace Go.Proofs.YtmjbedjnojcmfaaGreatDoor.Ex
open Go.Proofs Go.Proofs.YtmjbedjnojcmfaaGreatDoor
set_option maxRecDepth 100000
set_option maxHeartbeats 2000000
set_option linter.unusedVariables false
set_option linter.unusedSimpArgs false
def ash_check_isName : List Sh := [.dat .str]
noncomputable def sp_check_isName : List Con := [⟨118, con_IndexByte, snd_IndexByte⟩, ⟨119, con_Trim, snd_Trim⟩]
noncomputable def g_check_isName (a0 : ByteArray) : Option Bool :=
  bif !a0.toList == (ByteArray.mk #[]).toList then
 bif decide ((↑a0.size : Int) ≤ 8) then
 optC a0[Int.toNat (0 : Int)]? none fun d2 ↦
 bif
 decide
 (Go.Lib.indexByte (ByteArray.mk #[97, 98, 99, 100, 101, 102, 103, 104, 105, 106, 107, 108, 109, 110, 111, 112, 113, 114, 115, 116, 117, 118, 119, 120, 121, 122]).data.toList
 (↑d2.toNat : Int).toNat.toUInt8 ≥
 0) then
 bif decide (a0.size ≤ 9223372036854775807) then
 some
 ((trimV a0
 (ByteArray.mk
 #[97, 98, 99, 100, 101, 102, 103, 104, 105, 106, 107, 108, 109, 110, 111, 112, 113, 114, 115, 116, 117, 118, 119, 120, 121, 122, 48, 49, 50, 51, 52, 53, 54, 55, 56, 57])).toList ==
 (ByteArray.mk #[]).toList)
 else none
 else some false
 else some false
 else some false
theorem raw_check_isName (a0 : ByteArray) : evGX (cxU sp_check_isName [] 40 1048576) keeps 8 81 ash_check_isName (.dat .bool) ((a0, ()) : (ByteArray × Unit)) = g_check_isName a0 := by kernel_rfl
noncomputable def G_check_isName (x : (ByteArray × Unit)) : Option Bool := g_check_isName x.1
noncomputable def con_check_isName : List AV → Prog AV := conP false ash_check_isName (.dat .bool) G_check_isName
theorem snd_check_isName : SoundA Tryz.prog 81 con_check_isName := conP_sound (calU sp_check_isName [] 40 1048576 8 81) false (by rfl) (by rfl) (fun x r e => (evGX_eq _ _ _ _ _ _ _).trans ((raw_check_isName x.1).trans e)) (.inr fun _ => rfl)
end Go.Proofs.YtmjbedjnojcmfaaGreatDoor.Ex

namespace Go.Proofs.YtmjbedjnojcmfaaGreatDoor.Ex
open Go.Proofs Go.Proofs.YtmjbedjnojcmfaaGreatDoor
set_option maxRecDepth 100000
set_option maxHeartbeats 2000000
set_option linter.unusedVariables false
set_option linter.unusedSimpArgs false
def ash_check_areNames : List Sh := [.dat (.sl .str)]
def kp_check_areNames_153_0 : Nat → List Nat := fun c => bif c.beq 0 then [0, 1, 7, 8] else [4]
noncomputable def sp_check_areNames : List Con := [⟨81, con_check_isName, snd_check_isName⟩]
def s_check_areNames_153_0_0 : StS := ⟨[(0, .sl .str), (1, .clo 115 [] []), (7, .int .i64), (8, .int .i64)], [], 0⟩
def x_check_areNames_153_0_0_0 : StS := ⟨[(4, .undef)], [], 0⟩
def x_check_areNames_153_0_0_1 : StS := ⟨[(4, .int .i64)], [], 0⟩
abbrev X_check_areNames_153_0_0 := ((List ByteArray) × Int × Int)
def fl_check_areNames_153_0_0 (d : StD s_check_areNames_153_0_0) : X_check_areNames_153_0_0 := (d.1.1, d.1.2.2.1, d.1.2.2.2.1)
def un_check_areNames_153_0_0 (x : X_check_areNames_153_0_0) : StD s_check_areNames_153_0_0 := ((x.1, ((), ()), x.2.1, x.2.2, ()), ())
abbrev X_check_areNames_153_0_0_0 := Unit
def fl_check_areNames_153_0_0_0 (d : StD x_check_areNames_153_0_0_0) : X_check_areNames_153_0_0_0 := ()
def un_check_areNames_153_0_0_0 (x : X_check_areNames_153_0_0_0) : StD x_check_areNames_153_0_0_0 := (((), ()), ())
abbrev X_check_areNames_153_0_0_1 := Int
def fl_check_areNames_153_0_0_1 (d : StD x_check_areNames_153_0_0_1) : X_check_areNames_153_0_0_1 := (d.1.1)
def un_check_areNames_153_0_0_1 (x : X_check_areNames_153_0_0_1) : StD x_check_areNames_153_0_0_1 := ((x, ()), ())
noncomputable def st_check_areNames_153_0_0 (s0 : (List ByteArray)) (s7 : Int) (s8 : Int) : Option (((List ByteArray) × Int × Int) ⊕ (Unit ⊕ Int)) :=
  bif decide (s8 < s7) then
 bif decide (0 ≤ s8) then
 optC s0[s8.toNat]? none fun d5 ↦
 optC (G_check_isName (d5, ())) none fun d6 ↦ bif !d6 then some (Sum.inr (Sum.inr s8)) else some (Sum.inl (s0, s7, Go.IntKind.i64.wrap (s8 + 1)))
 else none
 else some (Sum.inr (Sum.inl PUnit.unit))
noncomputable def sx_check_areNames_153_0_0 (x : X_check_areNames_153_0_0) : Option (X_check_areNames_153_0_0 ⊕ (X_check_areNames_153_0_0_0 ⊕ X_check_areNames_153_0_0_1)) := st_check_areNames_153_0_0 x.1 x.2.1 x.2.2
theorem rn_check_areNames_153_0_0 (x : X_check_areNames_153_0_0) : rdX (cxU sp_check_areNames [] 40 1048576) keeps 8 ⟨153, 19, keeps 153, 0⟩ 0 (bodyX 153 0) 0 kp_check_areNames_153_0 (sT s_check_areNames_153_0_0 (un_check_areNames_153_0_0 x)) (sH s_check_areNames_153_0_0 (un_check_areNames_153_0_0 x)) (rdO (fun T h => (rdS s_check_areNames_153_0_0 T h).map fl_check_areNames_153_0_0) (getOr (getE 2 x_check_areNames_153_0_0_0 fl_check_areNames_153_0_0_0) (getE 1 x_check_areNames_153_0_0_1 fl_check_areNames_153_0_0_1))) = sx_check_areNames_153_0_0 x := by kernel_rfl
noncomputable def L_check_areNames_153_0_0 (x : X_check_areNames_153_0_0) : Option (X_check_areNames_153_0_0_0 ⊕ X_check_areNames_153_0_0_1) := iterO (fun x => st_check_areNames_153_0_0 x.1 x.2.1 x.2.2) FUEL x
noncomputable def q_check_areNames_153_0 : Nat → Tm → Prog (Nat × Tm) := (varP 0 (fun T h => (rdS s_check_areNames_153_0_0 T h).map fl_check_areNames_153_0_0) L_check_areNames_153_0_0 (fun y => .alt y (altE 2 x_check_areNames_153_0_0_0 un_check_areNames_153_0_0_0) (altE 1 x_check_areNames_153_0_0_1 un_check_areNames_153_0_0_1)) (fun _ _ => .fail))
noncomputable def lc_check_areNames_153_0 : Lpc := ⟨153, 0, 19, (fun base T => .norm base (kp_check_areNames_153_0 0) T (q_check_areNames_153_0 base)), by kernel_rfl, by kernel_rfl, (loopU sp_check_areNames [] 40 1048576 8 (keep := kp_check_areNames_153_0) (q := q_check_areNames_153_0) (by kernel_rfl) (varX_ok (s := s_check_areNames_153_0_0) (un := un_check_areNames_153_0_0) (by rfl) (fun _ => rfl) (getOr_ok (getE_ok (s := x_check_areNames_153_0_0_0) (un := un_check_areNames_153_0_0_0) (by rfl) (fun _ => rfl)) (getE_ok (s := x_check_areNames_153_0_0_1) (un := un_check_areNames_153_0_0_1) (by rfl) (fun _ => rfl))) (step := sx_check_areNames_153_0_0) rn_check_areNames_153_0_0 (fun _ _ e => ⟨_, e⟩) (altOr_ok (altE_ok 2 x_check_areNames_153_0_0_0 un_check_areNames_153_0_0_0) (altE_ok 1 x_check_areNames_153_0_0_1 un_check_areNames_153_0_0_1)) (VarOk.fail _ _)))⟩
noncomputable def g_check_areNames (a0 : (List ByteArray)) : Option Bool :=
  optC (L_check_areNames_153_0_0 (a0, (↑a0.length : Int), 0)) none fun d3 ↦ Sum.elim (fun e4 ↦ some !decide (-1 ≥ 0)) (fun e4 ↦ some !decide (e4 ≥ 0)) d3
theorem raw_check_areNames (a0 : (List ByteArray)) : evGX (cxU sp_check_areNames [lc_check_areNames_153_0] 40 1048576) keeps 8 78 ash_check_areNames (.dat .bool) ((a0, ()) : ((List ByteArray) × Unit)) = g_check_areNames a0 := by kernel_rfl
noncomputable def G_check_areNames (x : ((List ByteArray) × Unit)) : Option Bool := g_check_areNames x.1
noncomputable def con_check_areNames : List AV → Prog AV := conP false ash_check_areNames (.dat .bool) G_check_areNames
theorem snd_check_areNames : SoundA Tryz.prog 78 con_check_areNames := conP_sound (calU sp_check_areNames [lc_check_areNames_153_0] 40 1048576 8 78) false (by rfl) (by rfl) (fun x r e => (evGX_eq _ _ _ _ _ _ _).trans ((raw_check_areNames x.1).trans e)) (.inr fun _ => rfl)
end Go.Proofs.YtmjbedjnojcmfaaGreatDoor.Ex

namespace Go.Proofs.YtmjbedjnojcmfaaGreatDoor.Ex
set_option linter.unusedVariables false
set_option linter.unusedSectionVars false
section
variable [RT] {P : Program} {g : FuncId} {dl : Bool} {sh : List Sh} {rs : Sh}
theorem conP_bind (G : ShDs sh → Option (ShD rs)) (args : List AV) : conP dl sh rs G args = (frzL dl args .ret).bind fun args' => .opt (rds sh args') fun x => .opt (G x) fun r => .ret (mk rs r) := by
  rw [frzL_bind]; rfl
theorem conP_none : SoundA P g (conP dl sh rs fun _ => none) := by
  intro tr args h ft v h' ft' vals hdr S w ok e hr hm hv hi hO
  rw [conP_bind] at e
  obtain ⟨a, h1, f1, e1, e2⟩ := ex_bind_some e
  obtain ⟨x, hx, e3⟩ := ex_opt e2
  obtain ⟨r, hr, _⟩ := ex_opt e3
  cases hr
theorem conP_pick {n : ShDs sh → Nat} {F : Nat → ShDs sh → Option (ShD rs)} (hF : ∀ k, SoundA P g (conP dl sh rs (F k))) : SoundA P g (conP dl sh rs fun x => F (n x) x) := by
  intro tr args h ft v h' ft' vals hdr S w ok e hr hm hv hi hO
  rw [conP_bind] at e
  obtain ⟨a, h1, f1, e1, e2⟩ := ex_bind_some e
  obtain ⟨x, hx, e3⟩ := ex_opt e2
  obtain ⟨r, hr', e4⟩ := ex_opt e3
  refine hF (n x) tr args h ft v h' ft' vals hdr S w ok ?_ hr hm hv hi hO
  rw [conP_bind, ex_bind, e1]
  show ex (Prog.opt (rds sh a) _) tr h1 f1 = _
  unfold ex at e4 ⊢
  simp only [run, hx, Option.bind_some, hr']
  simpa only [run] using e4
def evF1 (cx : Ctx) (keeps : FuncId → List Nat) (n : Nat) (f : FuncId) (args : List AV) : Prog AV := match cx.inl f with
  | none => .fail
  | some fn => evB (cx.at n) (evF cx keeps n) (keeps f) f fn args
theorem evF1_sound {cx : Ctx} (hcx : TabOk P cx.tab) (hcmp : CmpsOk P cx.tab) (hmd : P.follows .mixedOrders = true) (hin : InlOk P cx) (hsp : ∀ g p, cx.spec g = some p → SoundA P g p) (keeps : FuncId → List Nat) (n : Nat) (g : FuncId) : SoundA P g (evF1 cx keeps n g) := by
  cases hi : cx.inl g with
  | none => have : evF1 cx keeps n g = fun _ => .fail := funext fun _ => by simp only [evF1, hi]
            rw [this]; exact soundA_fail g
  | some fn => have : evF1 cx keeps n g = evB (cx.at n) (evF cx keeps n) (keeps g) g fn := funext fun _ => by simp only [evF1, hi]
               rw [this]; exact evB_sound (cx := cx.at n) hcx hcmp (evF_sound hcx hcmp hmd hin hsp keeps n) hmd ⟨hin.fn, hin.lps⟩ hi _
noncomputable def evFX1 {R : Type} (cx : Ctx) (keeps : FuncId → List Nat) (n : Nat) (g : FuncId) (args : List AV) : RunX R AV :=
  @Option.rec Func (fun _ => RunX R AV) (fun _ _ _ _ => none) (fun fn => evBX (cx.at n) (evFX cx keeps n) (keeps g) g fn args) (cx.inl g)
theorem evFX1_same {R : Type} (cx : Ctx) (keeps : FuncId → List Nat) (n : Nat) (g : FuncId) (a : List AV) : Same (R := R) (evFX1 cx keeps n g a) (evF1 cx keeps n g a) := by
  simp only [evFX1, evF1]
  cases cx.inl g with
  | none => exact Same.no
  | some fn => exact evBX_same (cx.at n) (evFX_same cx keeps n) (keeps g) g fn a
noncomputable def evGX1 (cx : Ctx) (keeps : FuncId → List Nat) (n : Nat) (g : FuncId) (sh : List Sh) (rs : Sh) (x : ShDs sh) : Option (ShD rs) :=
  evFX1 cx keeps n g (mks sh x) false ⟨[], 0⟩ ⟨[], []⟩ fun v h f => runX (outP rs v) false h f fun d _ _ => some d
theorem evGX1_eq (cx : Ctx) (keeps : FuncId → List Nat) (n : Nat) (g : FuncId) (sh : List Sh) (rs : Sh) (x : ShDs sh) : evG (evF1 cx keeps n g) sh rs x = evGX1 cx keeps n g sh rs x := by
  unfold evG evGX1
  rw [run_bind, evFX1_same]
  simp only [runX_eq]
end
end Go.Proofs.YtmjbedjnojcmfaaGreatDoor.Ex

namespace Go.Proofs.YtmjbedjnojcmfaaGreatDoor.Ex
open Go.Proofs Go.Proofs.YtmjbedjnojcmfaaGreatDoor
set_option maxRecDepth 100000
set_option maxHeartbeats 2000000
set_option linter.unusedVariables false
set_option linter.unusedSimpArgs false
def ash_check_isIn : List Sh := [.dat (.int .i64), .dat (.int .i64), .dat (.int .i64)]
noncomputable def sp_check_isIn : List Con := []
noncomputable def g_check_isIn (a0 : Int) (a1 : Int) (a2 : Int) : Option Bool :=
  bif decide (a0 ≥ a1) then some (decide (a0 ≤ a2)) else some false
theorem raw_check_isIn (a0 : Int) (a1 : Int) (a2 : Int) : evGX (cxU sp_check_isIn [] 40 1048576) keeps 8 84 ash_check_isIn (.dat .bool) ((a0, a1, a2, ()) : (Int × (Int × (Int × Unit)))) = g_check_isIn a0 a1 a2 := by kernel_rfl
noncomputable def G_check_isIn (x : (Int × (Int × (Int × Unit)))) : Option Bool := g_check_isIn x.1 x.2.1 x.2.2.1
noncomputable def con_check_isIn : List AV → Prog AV := conP true ash_check_isIn (.dat .bool) G_check_isIn
theorem snd_check_isIn : SoundA Tryz.prog 84 con_check_isIn := conP_sound (calU sp_check_isIn [] 40 1048576 8 84) true (by rfl) (by rfl) (fun x r e => (evGX_eq _ _ _ _ _ _ _).trans ((raw_check_isIn x.1 x.2.1 x.2.2.1).trans e)) (.inl rfl)
end Go.Proofs.YtmjbedjnojcmfaaGreatDoor.Ex

namespace Go.Proofs.YtmjbedjnojcmfaaGreatDoor.Ex
open Go.Proofs Go.Proofs.YtmjbedjnojcmfaaGreatDoor
set_option maxRecDepth 100000
set_option maxHeartbeats 2000000
set_option linter.unusedVariables false
set_option linter.unusedSimpArgs false
def ash_check_isExpr : List Sh := [.dat tX]
def kp_check_isExpr_185_0 : Nat → List Nat := fun c => bif c.beq 0 then [0, 1, 7, 8] else [4]
class Rec_check_isExpr where
  K : (Xp × Unit) → Option Bool
  s : SoundA Tryz.prog 122 (conP true ash_check_isExpr (.dat .bool) K)
section
variable [Rec_check_isExpr]
noncomputable def sp_check_isExpr : List Con := [⟨84, con_check_isIn, snd_check_isIn⟩, ⟨81, con_check_isName, snd_check_isName⟩, ⟨122, (conP true ash_check_isExpr (.dat .bool) Rec_check_isExpr.K), Rec_check_isExpr.s⟩]
def s_check_isExpr_185_0_0 : StS := ⟨[(0, .sl (.mu 0)), (1, .clo 163 [] [.ptr 1 0]), (7, .int .i64), (8, .int .i64)], [(1, .box [.clo 122 [] []]), (0, .box [.int .i64, .int .i64, .int .i64, .str, .sl (.mu 0)])], 2⟩
def x_check_isExpr_185_0_0_0 : StS := ⟨[(4, .undef)], [(1, .box [.clo 122 [] []]), (0, .box [.int .i64, .int .i64, .int .i64, .str, .sl (.mu 0)])], 2⟩
def x_check_isExpr_185_0_0_1 : StS := ⟨[(4, .int .i64)], [(1, .box [.clo 122 [] []]), (0, .box [.int .i64, .int .i64, .int .i64, .str, .sl (.mu 0)])], 2⟩
abbrev X_check_isExpr_185_0_0 := ((List (RT.C 0)) × Int × Int × Int × Int × Int × ByteArray × (List (RT.C 0)))
def fl_check_isExpr_185_0_0 (d : StD s_check_isExpr_185_0_0) : X_check_isExpr_185_0_0 := (d.1.1, d.1.2.2.1, d.1.2.2.2.1, d.2.2.1.1, d.2.2.1.2.1, d.2.2.1.2.2.1, d.2.2.1.2.2.2.1, d.2.2.1.2.2.2.2.1)
def un_check_isExpr_185_0_0 (x : X_check_isExpr_185_0_0) : StD s_check_isExpr_185_0_0 := ((x.1, ((), ((), ())), x.2.1, x.2.2.1, ()), ((((), ()), ()), (x.2.2.2.1, x.2.2.2.2.1, x.2.2.2.2.2.1, x.2.2.2.2.2.2.1, x.2.2.2.2.2.2.2, ()), ()))
abbrev X_check_isExpr_185_0_0_0 := (Int × Int × Int × ByteArray × (List (RT.C 0)))
def fl_check_isExpr_185_0_0_0 (d : StD x_check_isExpr_185_0_0_0) : X_check_isExpr_185_0_0_0 := (d.2.2.1.1, d.2.2.1.2.1, d.2.2.1.2.2.1, d.2.2.1.2.2.2.1, d.2.2.1.2.2.2.2.1)
def un_check_isExpr_185_0_0_0 (x : X_check_isExpr_185_0_0_0) : StD x_check_isExpr_185_0_0_0 := (((), ()), ((((), ()), ()), (x.1, x.2.1, x.2.2.1, x.2.2.2.1, x.2.2.2.2, ()), ()))
abbrev X_check_isExpr_185_0_0_1 := (Int × Int × Int × Int × ByteArray × (List (RT.C 0)))
def fl_check_isExpr_185_0_0_1 (d : StD x_check_isExpr_185_0_0_1) : X_check_isExpr_185_0_0_1 := (d.1.1, d.2.2.1.1, d.2.2.1.2.1, d.2.2.1.2.2.1, d.2.2.1.2.2.2.1, d.2.2.1.2.2.2.2.1)
def un_check_isExpr_185_0_0_1 (x : X_check_isExpr_185_0_0_1) : StD x_check_isExpr_185_0_0_1 := ((x.1, ()), ((((), ()), ()), (x.2.1, x.2.2.1, x.2.2.2.1, x.2.2.2.2.1, x.2.2.2.2.2, ()), ()))
noncomputable def st_check_isExpr_185_0_0 (s0 : (List (RT.C 0))) (s7 : Int) (s8 : Int) (b0 : Int) (b0_1 : Int) (b0_2 : Int) (b0_3 : ByteArray) (b0_4 : (List (RT.C 0))) : Option (((List (RT.C 0)) × Int × Int × Int × Int × Int × ByteArray × (List (RT.C 0))) ⊕ ((Int × Int × Int × ByteArray × (List (RT.C 0))) ⊕ (Int × Int × Int × Int × ByteArray × (List (RT.C 0))))) :=
  bif decide (s8 < s7) then
 bif decide (0 ≤ s8) then
 optC s0[s8.toNat]? none fun d11 ↦
 optC (Rec_check_isExpr.K (uT0 d11, ())) none fun d12 ↦
 bif !d12 then some (Sum.inr (Sum.inr (s8, b0, b0_1, b0_2, b0_3, b0_4))) else some (Sum.inl (s0, s7, Go.IntKind.i64.wrap (s8 + 1), b0, b0_1, b0_2, b0_3, b0_4))
 else none
 else some (Sum.inr (Sum.inl (b0, b0_1, b0_2, b0_3, b0_4)))
noncomputable def sx_check_isExpr_185_0_0 (x : X_check_isExpr_185_0_0) : Option (X_check_isExpr_185_0_0 ⊕ (X_check_isExpr_185_0_0_0 ⊕ X_check_isExpr_185_0_0_1)) := st_check_isExpr_185_0_0 x.1 x.2.1 x.2.2.1 x.2.2.2.1 x.2.2.2.2.1 x.2.2.2.2.2.1 x.2.2.2.2.2.2.1 x.2.2.2.2.2.2.2
theorem rn_check_isExpr_185_0_0 (x : X_check_isExpr_185_0_0) : rdX (cxU sp_check_isExpr [] 40 (1048576 ^ 9)) keeps 8 ⟨185, 19, keeps 185, 2⟩ 0 (bodyX 185 0) 2 kp_check_isExpr_185_0 (sT s_check_isExpr_185_0_0 (un_check_isExpr_185_0_0 x)) (sH s_check_isExpr_185_0_0 (un_check_isExpr_185_0_0 x)) (rdO (fun T h => (rdS s_check_isExpr_185_0_0 T h).map fl_check_isExpr_185_0_0) (getOr (getE 2 x_check_isExpr_185_0_0_0 fl_check_isExpr_185_0_0_0) (getE 1 x_check_isExpr_185_0_0_1 fl_check_isExpr_185_0_0_1))) = sx_check_isExpr_185_0_0 x := by kernel_rfl
noncomputable def L_check_isExpr_185_0_0 (x : X_check_isExpr_185_0_0) : Option (X_check_isExpr_185_0_0_0 ⊕ X_check_isExpr_185_0_0_1) := iterO (fun x => st_check_isExpr_185_0_0 x.1 x.2.1 x.2.2.1 x.2.2.2.1 x.2.2.2.2.1 x.2.2.2.2.2.1 x.2.2.2.2.2.2.1 x.2.2.2.2.2.2.2) FUEL x
noncomputable def q_check_isExpr_185_0 : Nat → Tm → Prog (Nat × Tm) := (varP 2 (fun T h => (rdS s_check_isExpr_185_0_0 T h).map fl_check_isExpr_185_0_0) L_check_isExpr_185_0_0 (fun y => .alt y (altE 2 x_check_isExpr_185_0_0_0 un_check_isExpr_185_0_0_0) (altE 1 x_check_isExpr_185_0_0_1 un_check_isExpr_185_0_0_1)) (fun _ _ => .fail))
noncomputable def lc_check_isExpr_185_0 : Lpc := ⟨185, 0, 19, (fun base T => .norm base (kp_check_isExpr_185_0 0) T (q_check_isExpr_185_0 base)), by kernel_rfl, by kernel_rfl, (loopU sp_check_isExpr [] 40 (1048576 ^ 9) 8 (keep := kp_check_isExpr_185_0) (q := q_check_isExpr_185_0) (by kernel_rfl) (varX_ok (s := s_check_isExpr_185_0_0) (un := un_check_isExpr_185_0_0) (by rfl) (fun _ => rfl) (getOr_ok (getE_ok (s := x_check_isExpr_185_0_0_0) (un := un_check_isExpr_185_0_0_0) (by rfl) (fun _ => rfl)) (getE_ok (s := x_check_isExpr_185_0_0_1) (un := un_check_isExpr_185_0_0_1) (by rfl) (fun _ => rfl))) (step := sx_check_isExpr_185_0_0) rn_check_isExpr_185_0_0 (fun _ _ e => ⟨_, e⟩) (altOr_ok (altE_ok 2 x_check_isExpr_185_0_0_0 un_check_isExpr_185_0_0_0) (altE_ok 1 x_check_isExpr_185_0_0_1 un_check_isExpr_185_0_0_1)) (VarOk.fail _ _)))⟩
noncomputable def g_check_isExpr (a0 : Xp) : Option Bool :=
  bif a0.1 == 1 then
 optC (G_check_isIn (a0.2.1, 0, 2147483647, ())) none fun d4 ↦
 bif d4 then
 bif (↑(List.length a0.2.2.2.2) : Int) == 0 then
 optC (L_check_isExpr_185_0_0 (a0.2.2.2.2, (↑(List.length a0.2.2.2.2) : Int), 0, a0)) none fun d5 ↦
 Sum.elim (fun e6 ↦ some !decide (-1 ≥ 0)) (fun e6 ↦ some !decide (e6.1 ≥ 0)) d5
 else some false
 else some false
 else
 bif a0.1 == 4 then
 bif (↑(List.length a0.2.2.2.2) : Int) == 0 then
 optC (L_check_isExpr_185_0_0 (a0.2.2.2.2, (↑(List.length a0.2.2.2.2) : Int), 0, a0)) none fun d4 ↦
 Sum.elim (fun e5 ↦ some !decide (-1 ≥ 0)) (fun e5 ↦ some !decide (e5.1 ≥ 0)) d4
 else some false
 else
 bif a0.1 == 2 then
 optC (G_check_isName (a0.2.2.2.1, ())) none fun d4 ↦
 bif d4 then
 bif (↑(List.length a0.2.2.2.2) : Int) == 0 then
 optC (L_check_isExpr_185_0_0 (a0.2.2.2.2, (↑(List.length a0.2.2.2.2) : Int), 0, a0)) none fun d5 ↦
 Sum.elim (fun e6 ↦ some !decide (-1 ≥ 0)) (fun e6 ↦ some !decide (e6.1 ≥ 0)) d5
 else some false
 else some false
 else
 bif a0.1 == 3 then
 optC (G_check_isName (a0.2.2.2.1, ())) none fun d4 ↦
 bif d4 then
 bif (↑(List.length a0.2.2.2.2) : Int) == 1 then
 optC (L_check_isExpr_185_0_0 (a0.2.2.2.2, (↑(List.length a0.2.2.2.2) : Int), 0, a0)) none fun d5 ↦
 Sum.elim (fun e6 ↦ some !decide (-1 ≥ 0)) (fun e6 ↦ some !decide (e6.1 ≥ 0)) d5
 else some false
 else some false
 else
 bif a0.1 == 6 then
 bif (↑(List.length a0.2.2.2.2) : Int) == 1 then
 optC (L_check_isExpr_185_0_0 (a0.2.2.2.2, (↑(List.length a0.2.2.2.2) : Int), 0, a0)) none fun d4 ↦
 Sum.elim (fun e5 ↦ some !decide (-1 ≥ 0)) (fun e5 ↦ some !decide (e5.1 ≥ 0)) d4
 else some false
 else
 bif a0.1 == 5 then
 optC (G_check_isIn (a0.2.2.1, 1, 5, ())) none fun d4 ↦
 bif d4 then
 bif (↑(List.length a0.2.2.2.2) : Int) == 2 then
 optC (L_check_isExpr_185_0_0 (a0.2.2.2.2, (↑(List.length a0.2.2.2.2) : Int), 0, a0)) none fun d5 ↦
 Sum.elim (fun e6 ↦ some !decide (-1 ≥ 0)) (fun e6 ↦ some !decide (e6.1 ≥ 0)) d5
 else some false
 else some false
 else some false
theorem raw_check_isExpr (a0 : Xp) : evGX1 (cxU sp_check_isExpr [lc_check_isExpr_185_0] 40 (1048576 ^ 9)) keeps 8 122 ash_check_isExpr (.dat .bool) ((a0, ()) : (Xp × Unit)) = g_check_isExpr a0 := by kernel_rfl
noncomputable def GI_check_isExpr (x : (Xp × Unit)) : Option Bool := g_check_isExpr x.1
noncomputable def conI_check_isExpr : List AV → Prog AV := conP true ash_check_isExpr (.dat .bool) GI_check_isExpr
theorem sndI_check_isExpr : SoundA Tryz.prog 122 conI_check_isExpr := conP_sound (evF1_sound (tabOk_of tab_ok) (cmpsOk_of tab_ok cmps_ok) mixed (inU sp_check_isExpr [lc_check_isExpr_185_0] 40 (1048576 ^ 9)) (hspL sp_check_isExpr) keeps 8 122) true (by rfl) (by rfl) (fun x r e => (evGX1_eq _ _ _ _ _ _ _).trans ((raw_check_isExpr x.1).trans e)) (.inl rfl)
end
noncomputable def it_check_isExpr : Nat → {K : (Xp × Unit) → Option Bool // SoundA Tryz.prog 122 (conP true ash_check_isExpr (.dat .bool) K)}
  | 0 => ⟨fun _ => none, conP_none⟩
  | k + 1 => letI : Rec_check_isExpr := ⟨(it_check_isExpr k).1, (it_check_isExpr k).2⟩; ⟨GI_check_isExpr, sndI_check_isExpr⟩
noncomputable def G_check_isExpr (x : (Xp × Unit)) : Option Bool := (it_check_isExpr (SizeOf.sizeOf x + 1)).1 x
noncomputable def con_check_isExpr : List AV → Prog AV := conP true ash_check_isExpr (.dat .bool) G_check_isExpr
theorem snd_check_isExpr : SoundA Tryz.prog 122 con_check_isExpr := conP_pick (sh := ash_check_isExpr) (rs := .dat .bool) (n := fun x : (Xp × Unit) => SizeOf.sizeOf x + 1) (F := fun k => (it_check_isExpr k).1) (fun k => (it_check_isExpr k).2)
end Go.Proofs.YtmjbedjnojcmfaaGreatDoor.Ex

