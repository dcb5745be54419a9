/- A part of the proofs of the laws of flow: YH. -/
import Derived.Test.YtbdcblpjemmipaaYG
import Derived.Test.YtbdcblpjemmipaaYF
namespace Go.Proofs.Ytbdcblpjemmipaa.Ex
set_option maxRecDepth 100000
set_option linter.unusedVariables false
set_option linter.unusedSimpArgs false
theorem rangeO_inl {σ α Y : Type} {f : Nat → σ → α → Option (σ ⊕ Y)} {fin : σ → Option Y} {i : Nat} {d : α} {r : List α} {s s' : σ} (h : f i s d = some (.inl s')) : rangeO f fin i (d :: r) s = rangeO f fin (i + 1) r s' := by
  rw [rangeO, h]
theorem cd_true {α : Type} {p : Prop} [Decidable p] (h : p) (a b : α) : (bif decide p then a else b) = a := by rw [decide_eq_true h]; rfl
theorem n_itv_Leq (x y : I) : g_itv_Leq x y = some (leqB x y) := by
  unfold g_itv_Leq leqB empB
  cases decide (x.1 > x.2)
  · cases decide (x.1 ≥ y.1) <;> rfl
  · rfl
theorem n_ref2_Leq (x y : I) : g_ref2_Leq x y = some (leqB x y) := n_itv_Leq x y
theorem n_itv_Meet (x y : I) : g_itv_Meet x y = some (iMeet x y) := by
  unfold g_itv_Meet iMeet empB
  simp only [cond_eq_ite, mn_def, mx_def, nn]
  (repeat' split) <;> simp_all
theorem n_ref2_span (a b : Int) : g_ref2_span a b = some (iSpan a b) := by
  unfold g_ref2_span iSpan
  simp only [cond_eq_ite, decide_eq_true_eq, nn]
  split <;> rfl
theorem n_ref2_Meet (x y : I) : g_ref2_Meet x y = some (mSpan x y) := by
  unfold g_ref2_Meet G_ref2_span mSpan
  simp only [n_ref2_span, optC_some, mn_def, mx_def]
theorem n_ref2_Join (x y : I) : g_ref2_Join x y = some (rJoin x y) := by
  unfold g_ref2_Join rJoin empB
  simp only [cond_eq_ite, mn_def, mx_def]
  (repeat' split) <;> simp_all
theorem joins_go (b0 b01 : Int) (L : List I) : ∀ (l : List I) (i : Nat) (a : I), rangeO (fun i s d => bd_itv_Join_55_0_0 b0 b01 L i s.1 s.2 d) (fun s => fn_itv_Join_55_0_0 b0 b01 L s.1 s.2) i l a =
    some (b0, b01, (l.foldl (fun a d => if empB d then a else if empB a then d else (mn a.1 d.1, mx a.2 d.2)) a).1, (l.foldl (fun a d => if empB d then a else if empB a then d else (mn a.1 d.1, mx a.2 d.2)) a).2)
  | [], i, a => rfl
  | d :: r, i, a => by
    have h : bd_itv_Join_55_0_0 b0 b01 L i a.1 a.2 d = some (.inl (if empB d then a else if empB a then d else (mn a.1 d.1, mx a.2 d.2))) := by
      unfold bd_itv_Join_55_0_0 empB
      simp only [cond_eq_ite, mn_def, mx_def]
      (repeat' split) <;> simp_all
    rw [rangeO]
    simp only [h]
    exact joins_go b0 b01 L r (i + 1) _
theorem n_itv_Join (l : List I) (hl : l.length < 9223372036854775807) : g_itv_Join l = some (l.foldl (fun a d => if empB d then a else if empB a then d else (mn a.1 d.1, mx a.2 d.2)) nn) := by
  unfold g_itv_Join
  have := rg_itv_Join_55_0_0 0 0 l nn hl
  have e : L_itv_Join_55_0_0 (l, (l.length : Int), 0, 0, 0, 1, 0) = _ := this
  rw [e]
  unfold rv_itv_Join_55_0_0
  rw [joins_go 0 0 l l 0 nn]
  rfl
theorem n_itv_Join2 (x y : I) : g_itv_Join [x, y] = some (iJoin x y) := by
  rw [n_itv_Join [x, y] (by simp)]
  simp only [List.foldl_cons, List.foldl_nil]
  have hn : empB nn = true := rfl
  unfold iJoin
  cases hx : empB x <;> cases hy : empB y <;> simp [hn, hx, hy]
theorem n_num_Fits1 (n : Int) : g_num_Fits [n] = some (fitB n) := by
  unfold g_num_Fits
  have e : L_num_Fits_98_0_0 ([n], 1, 0) = _ := rg_num_Fits_98_0_0 [n] () (by simp)
  have e2 : (([n].length : Nat) : Int) = 1 := rfl
  rw [e2, e]
  unfold rv_num_Fits_98_0_0 fitB
  simp only [rangeO, bd_num_Fits_98_0_0, fn_num_Fits_98_0_0]
  by_cases h1 : n < -2147483648
  · rw [decide_eq_true h1, decide_eq_false (show ¬ n ≥ -2147483648 by omega)]; rfl
  · by_cases h2 : n > 2147483647
    · rw [decide_eq_false h1, decide_eq_true h2, decide_eq_true (show n ≥ -2147483648 by omega), decide_eq_false (show ¬ n ≤ 2147483647 by omega)]; rfl
    · rw [decide_eq_false h1, decide_eq_false h2, decide_eq_true (show n ≥ -2147483648 by omega), decide_eq_true (show n ≤ 2147483647 by omega)]; rfl
theorem n_itv_Of1 (n : Int) (h : fitB n = true) : g_itv_Of [n] = some (n, n) := by
  unfold g_itv_Of
  have e : L_itv_Of_101_0_0 ([n], (([n] : List Int).length : Int), 0, 0, 0, 1, 0) = _ := rg_itv_Of_101_0_0 0 0 [n] nn (by simp)
  rw [e]
  unfold rv_itv_Of_101_0_0
  simp only [rangeO, bd_itv_Of_101_0_0, fn_itv_Of_101_0_0, G_num_Fits, G_itv_Join, n_num_Fits1, h, optC_some, cond_true, n_itv_Join2]
  have : iJoin (nn.1, nn.2) (n, n) = (n, n) := join_nl (Int.le_refl n)
  rw [this]
theorem wr2 {a b : Int} (ha : a.natAbs ≤ 2147483648) (hb : b.natAbs ≤ 2147483648) : IntKind.i64.wrap (a + b) = a + b ∧ IntKind.i64.wrap (a - b) = a - b ∧ IntKind.i64.wrap (a * b) = a * b ∧ IntKind.i64.wrap (a.tdiv b) = a.tdiv b :=
  ⟨wr (by omega), wr (by omega), wr (mul_abs ha hb), wr (Nat.le_trans (div_abs ha) (by decide))⟩
theorem n_itv_quotients (x y : I) (hx : isB x = true) (hy : isB y = true) : g_itv_quotients x y = some ((quoV x y).1, (quoV x y).2, ()) := by
  obtain ⟨x1, x2⟩ := isB_abs hx
  obtain ⟨y1, y2⟩ := isB_abs hy
  unfold g_itv_quotients
  have e : L_itv_quotients_149_0_0 (false, (([(1, 2147483647), (-2147483648, -1)] : List I).length : Int), 0, x.1, x.2, y.1, y.2, 0, 0, 1, 0, [(1, 2147483647), (-2147483648, -1)]) = _ := rg_itv_quotients_149_0_0 x.1 x.2 y.1 y.2 0 0 [(1, 2147483647), (-2147483648, -1)] (false, 1, 0) (by simp)
  rw [e]
  unfold rv_itv_quotients_149_0_0
  have one : ∀ (p : I) (i : Nat) (L : List I) (o : Bool) (v : I), (∀ n, p.1 ≤ n → n ≤ p.2 → n ≠ 0) → p.1.natAbs ≤ 2147483648 → p.2.natAbs ≤ 2147483648 → bd_itv_quotients_149_0_0 x.1 x.2 y.1 y.2 0 0 L i o v.1 v.2 p =
      some (.inl (if empB (iMeet y p) then (o, v.1, v.2) else (o || !leqB (div4 x (iMeet y p)) aa, (iJoin v (iMeet (div4 x (iMeet y p)) aa)).1, (iJoin v (iMeet (div4 x (iMeet y p)) aa)).2))) := by
    intro p i L o v hp p1 p2
    unfold bd_itv_quotients_149_0_0
    simp only [G_itv_Meet, n_itv_Meet, optC_some]
    have hm : (iMeet ((y.1, y.2) : I) p) = iMeet y p := rfl
    rw [hm]
    cases he : empB (iMeet y p)
    · have h0 := le_of_emp he
      have hin : p.1 ≤ (iMeet y p).1 ∧ (iMeet y p).2 ≤ p.2 ∧ y.1 ≤ (iMeet y p).1 ∧ (iMeet y p).2 ≤ y.2 := by
        unfold iMeet at he ⊢
        (repeat' split at he) <;> first | (simp_all [empB, nn]; done) | skip
        rename_i k1 k2 k3
        rw [if_neg k1, if_neg k2, if_neg k3]
        unfold mx mn
        refine ⟨?_, ?_, ?_, ?_⟩ <;> simp only <;> split <;> omega
      generalize iMeet y p = m at *
      have m1 : m.1 ≠ 0 := hp _ (by omega) (by omega)
      have m2 : m.2 ≠ 0 := hp _ (by omega) (by omega)
      have a1 : m.1.natAbs ≤ 2147483648 := by omega
      have a2 : m.2.natAbs ≤ 2147483648 := by omega
      have w1 := (wr2 x1 a1).2.2.2
      have w2 := (wr2 x1 a2).2.2.2
      have w3 := (wr2 x2 a1).2.2.2
      have w4 := (wr2 x2 a2).2.2.2
      have h1 : ¬ m.1 > m.2 := by omega
      simp only [decide_eq_false h1, decide_eq_false m1, decide_eq_false m2, Bool.not_false, cond_true, cond_false, w1, w2, w3, w4, mn_def, mx_def, G_itv_Join, G_itv_Leq, n_itv_Join2, n_itv_Leq, optC_some]
      rw [show ((-2147483648, 2147483647) : I) = aa from rfl, show (mn (mn (mn (x.1.tdiv m.1) (x.1.tdiv m.2)) (x.2.tdiv m.1)) (x.2.tdiv m.2), mx (mx (mx (x.1.tdiv m.1) (x.1.tdiv m.2)) (x.2.tdiv m.1)) (x.2.tdiv m.2)) = div4 x m from rfl]
      cases o <;> rfl
    · have h1 : (iMeet y p).1 > (iMeet y p).2 := emp_iff.1 he
      rw [decide_eq_true h1]
      rfl
  have o1 := one pP 0 [pP, pM] false nn (fun n h1 h2 => by unfold pP at h1; simp only at h1; omega) (by decide) (by decide)
  have o2 := fun o v => one pM 1 [pP, pM] o v (fun n h1 h2 => by unfold pM at h2; simp only at h2; omega) (by decide) (by decide)
  have key : rangeO (fun i s d => bd_itv_quotients_149_0_0 x.1 x.2 y.1 y.2 0 0 [(1, 2147483647), (-2147483648, -1)] i s.1 s.2.1 s.2.2 d) (fun s => fn_itv_quotients_149_0_0 x.1 x.2 y.1 y.2 0 0 [(1, 2147483647), (-2147483648, -1)] s.1 s.2.1 s.2.2) 0 [(1, 2147483647), (-2147483648, -1)] (false, 1, 0) = some ((quoV x y).2, 0, 0, (quoV x y).1.1, (quoV x y).1.2) := by
    refine (rangeO_inl o1).trans ?_
    unfold quoV quo1
    cases hP : empB (iMeet y pP)
    · refine (rangeO_inl (o2 (!leqB (div4 x (iMeet y pP)) aa) (iJoin nn (iMeet (div4 x (iMeet y pP)) aa)))).trans ?_
      cases hM : empB (iMeet y pM) <;> rfl
    · refine (rangeO_inl (o2 false nn)).trans ?_
      cases hM : empB (iMeet y pM) <;> rfl
  rw [key]
  rfl
theorem mx4_abs {a b c d : Int} {n : Nat} (ha : a.natAbs ≤ n) (hb : b.natAbs ≤ n) (hc : c.natAbs ≤ n) (hd : d.natAbs ≤ n) : (mx (mx (mx a b) c) d).natAbs ≤ n := by
  unfold mx
  (repeat' split) <;> omega
theorem n_itv_rests (x y : I) (hx : isB x = true) (hy : isB y = true) : g_itv_rests x y = some (remI x y) := by
  obtain ⟨x1, x2⟩ := isB_abs hx
  obtain ⟨y1, y2⟩ := isB_abs hy
  have w1 : IntKind.i64.wrap (0 - y.1) = -y.1 := by rw [wr (by omega)]; omega
  have w2 : IntKind.i64.wrap (0 - y.2) = -y.2 := by rw [wr (by omega)]; omega
  unfold g_itv_rests remI
  simp only [w1, w2, mx_def, mn_def]
  have hM := mx4_abs (n := 2147483648) (a := y.2) (b := -y.2) (c := y.1) (d := -y.1) y2 (by omega) y1 (by omega)
  generalize mx (mx (mx y.2 (-y.2)) y.1) (-y.1) = M at *
  have w3 : IntKind.i64.wrap (M - 1) = M - 1 := wr (by omega)
  have w4 : IntKind.i64.wrap (0 - (M - 1)) = -(M - 1) := by rw [wr (by omega)]; omega
  simp only [w3, w4, mx_def, mn_def, cond_eq_ite, Bool.and_eq_true, beq_iff_eq, decide_eq_true_eq]
  by_cases h1 : y.1 = 0 ∧ y.2 = 0
  · rw [if_pos h1, if_pos h1]; rfl
  · rw [if_neg h1, if_neg h1]
    by_cases h2 : x.1 < 0 <;> by_cases h3 : x.2 > 0 <;> simp [h2, h3]
theorem n_ref2_rem (x y : I) (hx : isB x = true) (hy : isB y = true) : g_ref2_rem x y = some (remI x y) := by
  obtain ⟨x1, x2⟩ := isB_abs hx
  obtain ⟨y1, y2⟩ := isB_abs hy
  have w1 : IntKind.i64.wrap (0 - y.1) = -y.1 := by rw [wr (by omega)]; omega
  have w2 : IntKind.i64.wrap (0 - y.2) = -y.2 := by rw [wr (by omega)]; omega
  unfold g_ref2_rem remI
  simp only [w1, w2, mx_def, mn_def]
  have hM := mx4_abs (n := 2147483648) (a := y.2) (b := -y.2) (c := y.1) (d := -y.1) y2 (by omega) y1 (by omega)
  have hE : mx (mx (mx y.1 (-y.1)) y.2) (-y.2) = mx (mx (mx y.2 (-y.2)) y.1) (-y.1) := by unfold mx; (repeat' split) <;> omega
  rw [hE]
  generalize mx (mx (mx y.2 (-y.2)) y.1) (-y.1) = M at *
  have w3 : IntKind.i64.wrap (M - 1) = M - 1 := wr (by omega)
  have w4 : IntKind.i64.wrap (0 - (M - 1)) = -(M - 1) := by rw [wr (by omega)]; omega
  simp only [w3, w4, mx_def, mn_def, cond_eq_ite, Bool.and_eq_true, beq_iff_eq, decide_eq_true_eq]
  by_cases h0 : y.1 = 0 <;> by_cases h1 : y.2 = 0 <;> by_cases h2 : x.1 < 0 <;> by_cases h3 : x.2 > 0 <;> simp [h0, h1, h2, h3, nn]
theorem n_itv_Has (x : I) (n : Int) : g_itv_Has x n = some (hasB x n) := by
  unfold g_itv_Has hasB
  cases decide (n ≥ x.1) <;> rfl
theorem n_ref2_Has (x : I) (n : Int) : g_ref2_Has x n = some (hasB x n) := by
  unfold g_ref2_Has hasB
  cases decide (n ≥ x.1) <;> rfl
theorem n_itv_Do (op : Int) (x y : I) (hx : isB x = true) (hy : isB y = true) : g_itv_Do op x y = some ((doI op x y).1, (doI op x y).2.1, (doI op x y).2.2, ()) := by
  obtain ⟨x1, x2⟩ := isB_abs hx
  obtain ⟨y1, y2⟩ := isB_abs hy
  have a11 := wr2 x1 y1
  have a12 := wr2 x1 y2
  have a21 := wr2 x2 y1
  have a22 := wr2 x2 y2
  unfold g_itv_Do doI
  simp only [a11.1, a11.2.1, a11.2.2.1, a12.1, a12.2.1, a12.2.2.1, a21.1, a21.2.1, a21.2.2.1, a22.1, a22.2.1, a22.2.2.1, mn_def, mx_def, G_itv_Meet, G_itv_Leq, G_itv_quotients, G_itv_Has, G_itv_rests, n_itv_Meet, n_itv_Leq, n_itv_quotients x y hx hy, n_itv_rests x y hx hy, n_itv_Has, optC_some]
  rw [show ((-2147483648, 2147483647) : I) = aa from rfl]
  by_cases h1 : x.1 > x.2
  · rw [decide_eq_true h1, show empB x = true from emp_iff.2 h1]; rfl
  by_cases h2 : y.1 > y.2
  · rw [decide_eq_false h1, decide_eq_true h2, show empB x = false from by simp [empB, h1], show empB y = true from emp_iff.2 h2]; rfl
  rw [decide_eq_false h1, decide_eq_false h2, show empB x = false from by simp [empB, h1], show empB y = false from by simp [empB, h2]]
  simp only [cond_false, Bool.or_self, Bool.false_eq_true, if_false]
  by_cases o1 : op = 1
  · subst o1; rfl
  by_cases o2 : op = 2
  · subst o2; rfl
  by_cases o3 : op = 3
  · subst o3; rfl
  by_cases o4 : op = 4
  · subst o4; rfl
  by_cases o5 : op = 5
  · subst o5; rfl
  simp only [o1, o2, o3, o4, o5, if_false, beq_eq_false_iff_ne.2 o1, beq_eq_false_iff_ne.2 o2, beq_eq_false_iff_ne.2 o3, beq_eq_false_iff_ne.2 o4, beq_eq_false_iff_ne.2 o5, cond_false]
  rfl
theorem n_ref2_clip (a b : Int) : g_ref2_clip a b = some (clipV a b, clipO a b, ()) := by
  unfold g_ref2_clip G_ref2_span clipV clipO
  simp only [n_ref2_span, optC_some, mn_def, mx_def]
  cases decide (a < -2147483648) <;> rfl
theorem corners_loop (v0 v1 v2 v3 : Int) : L_ref2_corners_139_0_0 (v0, v0, 1, [v0, v1, v2, v3]) = some (mn (mn (mn v0 v1) v2) v3, mx (mx (mx v0 v1) v2) v3) := by
  unfold L_ref2_corners_139_0_0
  refine iterO_mono 4 FUEL _ _ (by decide) ?_
  have go : ∀ (n : Nat) (i : Nat) (lo hi d : Int) (X : List Int), X[i]? = some d → i < 4 → iterO (fun x => st_ref2_corners_139_0_0 x.1 x.2.1 x.2.2.1 x.2.2.2) (n + 1) (lo, hi, (i : Int), X) =
      iterO (fun x => st_ref2_corners_139_0_0 x.1 x.2.1 x.2.2.1 x.2.2.2) n (mn lo d, mx hi d, ((i + 1 : Nat) : Int), X) := by
    intro n i lo hi d X hx hi4
    rw [iterO]
    simp only [st_ref2_corners_139_0_0]
    rw [show decide ((i : Int) < 4) = true from decide_eq_true (by omega), show decide (0 ≤ (i : Int)) = true from decide_eq_true (by omega), Int.toNat_natCast, hx]
    rw [wrap_next hi4 (by omega)]
    rfl
  have e1 := go 3 1 v0 v0 v1 [v0, v1, v2, v3] rfl (by decide)
  have e2 := go 2 2 (mn v0 v1) (mx v0 v1) v2 [v0, v1, v2, v3] rfl (by decide)
  have e3 := go 1 3 (mn (mn v0 v1) v2) (mx (mx v0 v1) v2) v3 [v0, v1, v2, v3] rfl (by decide)
  exact e1.trans (e2.trans (e3.trans rfl))
theorem n_ref2_corners (x y : I) (x1 : x.1.natAbs ≤ 2147483648) (x2 : x.2.natAbs ≤ 2147483648) (y1 : y.1.natAbs ≤ 2147483648) (y2 : y.2.natAbs ≤ 2147483648) (hz : noZ y = true) : g_ref2_corners x y true = some ((div4 x y).1, (div4 x y).2, ()) := by
  simp only [noZ, Bool.and_eq_true, Bool.not_eq_true', beq_eq_false_iff_ne] at hz
  have a11 := wr2 x1 y1
  have a12 := wr2 x1 y2
  have a21 := wr2 x2 y1
  have a22 := wr2 x2 y2
  unfold g_ref2_corners
  simp only [a11.2.2.2, a12.2.2.2, a21.2.2.2, a22.2.2.2, cond_true, decide_eq_false hz.1, decide_eq_false hz.2, cond_false, corners_loop, optC_some]
  rfl
theorem n_ref2_div (x y : I) (hx : isB x = true) (hy : isB y = true) : g_ref2_div x y = some ((rdivV x y).1, (rdivV x y).2, ()) := by
  obtain ⟨x1, x2⟩ := isB_abs hx
  have cor : ∀ p, isB p = true → empB (mSpan y p) = false → noZ (mSpan y p) = true → g_ref2_corners x (mSpan y p) true = some ((div4 x (mSpan y p)).1, (div4 x (mSpan y p)).2, ()) := fun p hp he hz => by
    obtain ⟨q1, q2⟩ := isB_abs (mSpan_ok hy hp he)
    exact n_ref2_corners x _ x1 x2 q1 q2 hz
  unfold g_ref2_div rdivV rdiv1
  simp only [G_ref2_Meet, n_ref2_Meet, optC_some, G_ref2_corners]
  rw [show ((1, 2147483647) : I) = pP from rfl, show ((-2147483648, -1) : I) = pM from rfl]
  have hE : ∀ z : I, decide (z.1 > z.2) = empB z := fun _ => rfl
  simp only [hE]
  cases hP : empB (mSpan y pP)
  · simp only [Bool.not_false, cond_true, cor pP rfl hP (mSpanP_nz hP), optC_some, G_ref2_clip, n_ref2_clip]
    cases hM : empB (mSpan y pM)
    · simp only [Bool.not_false, cond_true, cor pM rfl hM (mSpanM_nz hM), optC_some, n_ref2_clip, G_ref2_Join, n_ref2_Join, Bool.false_eq_true, if_false]
      cases clipO (div4 x (mSpan y pP)).1 (div4 x (mSpan y pP)).2 <;> rfl
    · rfl
  · simp only [Bool.not_true, cond_false]
    cases hM : empB (mSpan y pM)
    · simp only [Bool.not_false, cond_true, cor pM rfl hM (mSpanM_nz hM), optC_some, G_ref2_clip, n_ref2_clip, Bool.false_eq_true, if_false, if_true]
      have : rJoin nn (clipV (div4 x (mSpan y pM)).1 (div4 x (mSpan y pM)).2) = clipV (div4 x (mSpan y pM)).1 (div4 x (mSpan y pM)).2 := rfl
      rw [this]
      rfl
    · rfl
theorem n_ref2_Do (op : Int) (x y : I) (hx : isB x = true) (hy : isB y = true) : g_ref2_Do op x y = some ((doI op x y).1, (doI op x y).2.1, (doI op x y).2.2, ()) := by
  rw [doI_eq]
  obtain ⟨x1, x2⟩ := isB_abs hx
  obtain ⟨y1, y2⟩ := isB_abs hy
  have a11 := wr2 x1 y1
  have a12 := wr2 x1 y2
  have a21 := wr2 x2 y1
  have a22 := wr2 x2 y2
  unfold g_ref2_Do rdoI
  simp only [a11.1, a11.2.1, a11.2.2.1, a12.1, a12.2.1, a12.2.2.1, a21.1, a21.2.1, a21.2.2.1, a22.1, a22.2.1, a22.2.2.1, mn_def, mx_def, G_ref2_clip, n_ref2_clip, G_ref2_div, G_ref2_Has, G_ref2_rem, n_ref2_div x y hx hy, n_ref2_rem x y hx hy, n_ref2_Has, optC_some]
  by_cases h1 : x.1 > x.2
  · rw [decide_eq_true h1, show empB x = true from emp_iff.2 h1]; rfl
  by_cases h2 : y.1 > y.2
  · rw [decide_eq_false h1, decide_eq_true h2, show empB x = false from by simp [empB, h1], show empB y = true from emp_iff.2 h2]; rfl
  rw [decide_eq_false h1, decide_eq_false h2, show empB x = false from by simp [empB, h1], show empB y = false from by simp [empB, h2]]
  simp only [cond_false, Bool.or_self, Bool.false_eq_true, if_false]
  by_cases o1 : op = 1
  · subst o1; rfl
  by_cases o2 : op = 2
  · subst o2; rfl
  by_cases o3 : op = 3
  · subst o3; rfl
  by_cases o4 : op = 4
  · subst o4; rfl
  by_cases o5 : op = 5
  · subst o5; rfl
  simp only [o1, o2, o3, o4, o5, if_false, beq_eq_false_iff_ne.2 o1, beq_eq_false_iff_ne.2 o2, beq_eq_false_iff_ne.2 o3, beq_eq_false_iff_ne.2 o4, beq_eq_false_iff_ne.2 o5, cond_false]
  rfl
end Go.Proofs.Ytbdcblpjemmipaa.Ex

namespace Go.Proofs.Ytbdcblpjemmipaa.Ex
set_option maxRecDepth 100000
set_option linter.unusedVariables false
set_option linter.unusedSimpArgs false
def bitV (m : Int) : Int := if 0 ≤ m ∧ m < 31 then ((2 ^ m.toNat : Nat) : Int) else 0
theorem one_bit (m : Int) (h : 0 ≤ m ∧ m < 31) : IntKind.i64.wrap (1 * 2 ^ Min.min (Int.toNat m) IntKind.i64.bits) = ((2 ^ m.toNat : Nat) : Int) := by
  obtain ⟨n, rfl⟩ : ∃ n : Nat, m = n := ⟨m.toNat, by omega⟩
  have hn : n < 31 := by omega
  have : ((List.range 31).all fun n => IntKind.i64.wrap (1 * 2 ^ Min.min (Int.toNat (n : Int)) IntKind.i64.bits) == ((2 ^ (n : Int).toNat : Nat) : Int)) = true := by kernel_rfl
  exact beq_iff_eq.1 (List.all_eq_true.1 this n (List.mem_range.2 hn))
theorem one_bit_u (m : Int) (h : 0 ≤ m ∧ m < 31) : IntKind.i64.wrap (1 * 2 ^ Min.min (IntKind.u64.wrap m).toNat IntKind.i64.bits) = ((2 ^ m.toNat : Nat) : Int) := by
  obtain ⟨n, rfl⟩ : ∃ n : Nat, m = n := ⟨m.toNat, by omega⟩
  have hn : n < 31 := by omega
  have : ((List.range 31).all fun n => IntKind.i64.wrap (1 * 2 ^ Min.min (IntKind.u64.wrap (n : Int)).toNat IntKind.i64.bits) == ((2 ^ (n : Int).toNat : Nat) : Int)) = true := by kernel_rfl
  exact beq_iff_eq.1 (List.all_eq_true.1 this n (List.mem_range.2 hn))
theorem ofInt_nat (n : Nat) (h : n < 18446744073709551616) : (BitVec.ofInt IntKind.i64.bits (n : Int)).toNat = n := by
  show (BitVec.ofInt 64 (n : Int)).toNat = n
  rw [BitVec.toNat_ofInt]; omega
theorem wrap_nat (n : Nat) (h : n < 9223372036854775808) : IntKind.i64.wrap (n : Int) = (n : Int) := wrap_fits (by omega) (by omega)
theorem and64 {a b : Nat} (ha : a < 9223372036854775808) (hb : b < 9223372036854775808) : IntKind.i64.wrap ((BitVec.ofInt IntKind.i64.bits (a : Int) &&& BitVec.ofInt IntKind.i64.bits (b : Int)).toNat : Int) = ((a &&& b : Nat) : Int) := by
  rw [BitVec.toNat_and, ofInt_nat a (by omega), ofInt_nat b (by omega)]
  exact wrap_nat _ (Nat.lt_of_le_of_lt Nat.and_le_left ha)
theorem or64 {a b : Nat} (ha : a < 4611686018427387904) (hb : b < 4611686018427387904) : IntKind.i64.wrap ((BitVec.ofInt IntKind.i64.bits (a : Int) ||| BitVec.ofInt IntKind.i64.bits (b : Int)).toNat : Int) = ((a ||| b : Nat) : Int) := by
  rw [BitVec.toNat_or, ofInt_nat a (by omega), ofInt_nat b (by omega)]
  refine wrap_nat _ (Nat.lt_of_lt_of_le (Nat.or_lt_two_pow (n := 62) ha hb) (by decide))
def tb (s m : Int) : Bool := decide (0 ≤ m) && decide (m < 31) && s.toNat.testBit m.toNat
theorem and_pow (n k : Nat) : (n &&& 2 ^ k != 0) = n.testBit k := by
  cases h : n.testBit k
  · have : n &&& 2 ^ k = 0 := Nat.eq_of_testBit_eq fun i => by
      rw [Nat.testBit_and, Nat.testBit_two_pow, Nat.zero_testBit]
      by_cases e : k = i
      · subst e; rw [h]; rfl
      · simp [e]
    rw [this]; rfl
  · rw [bne_iff_ne]
    intro e
    have : (n &&& 2 ^ k).testBit k = true := by rw [Nat.testBit_and, h, Nat.testBit_two_pow_self]; rfl
    rw [e, Nat.zero_testBit] at this
    cases this
theorem bits_one (m : Int) : g_held_bits [m] = some (bitV m) := by
  unfold g_held_bits
  have e : L_held_bits_91_0_0 (0, [m], (([m] : List Int).length : Int), 0) = _ := rg_held_bits_91_0_0 [m] 0 (by simp)
  rw [e]
  unfold rv_held_bits_91_0_0 bitV
  simp only [rangeO, bd_held_bits_91_0_0, fn_held_bits_91_0_0]
  by_cases h1 : m ≥ 0
  · by_cases h2 : m < 31
    · rw [decide_eq_true h1, decide_eq_true h2, decide_eq_false (show ¬ m < 0 by omega), one_bit m ⟨h1, h2⟩, if_pos ⟨h1, h2⟩]
      simp only [cond_true, cond_false]
      have := or64 (a := 0) (b := 2 ^ m.toNat) (by decide) (Nat.lt_of_lt_of_le (Nat.pow_lt_pow_right (by decide) (show m.toNat < 31 by omega)) (by decide))
      rw [show ((0 : Nat) : Int) = 0 from rfl] at this
      rw [this, Nat.zero_or]
      rfl
    · rw [decide_eq_true h1, decide_eq_false h2, if_neg (by omega)]; rfl
  · rw [decide_eq_false h1, if_neg (by omega)]; rfl
theorem bitV_nat (m : Int) : ∃ k : Nat, bitV m = k ∧ k < 2147483648 ∧ ∀ n : Nat, (n &&& k != 0) = (decide (0 ≤ m) && decide (m < 31) && n.testBit m.toNat) := by
  unfold bitV
  by_cases h : 0 ≤ m ∧ m < 31
  · rw [if_pos h]
    refine ⟨2 ^ m.toNat, rfl, Nat.lt_of_lt_of_le (Nat.pow_lt_pow_right (by decide) (show m.toNat < 31 by omega)) (by decide), fun n => ?_⟩
    rw [decide_eq_true h.1, decide_eq_true h.2, and_pow]; rfl
  · rw [if_neg h]
    refine ⟨0, rfl, by decide, fun n => ?_⟩
    rw [Nat.and_zero]
    by_cases h1 : 0 ≤ m
    · rw [decide_eq_true h1, decide_eq_false (show ¬ m < 31 by omega)]; rfl
    · rw [decide_eq_false h1]; rfl
theorem n_held_Has (s m : Int) (hs : 0 ≤ s ∧ s < 9223372036854775808) : g_held_Has s m = some (tb s m) := by
  obtain ⟨n, rfl⟩ : ∃ n : Nat, s = n := ⟨s.toNat, by omega⟩
  obtain ⟨k, h1, h2, h3⟩ := bitV_nat m
  unfold g_held_Has G_held_bits tb
  simp only [bits_one, optC_some, h1]
  rw [and64 (by omega) (by omega), Int.toNat_natCast, ← h3 n]
  congr 1
  rw [Bool.eq_iff_iff]
  simp only [bne_iff_ne]
  omega
theorem n_ref3_Has (s m : Int) (hs : 0 ≤ s ∧ s < 2147483648) : g_ref3_Has s m = some (tb s m) := by
  obtain ⟨n, rfl⟩ : ∃ n : Nat, s = n := ⟨s.toNat, by omega⟩
  unfold g_ref3_Has tb
  by_cases h1 : m ≥ 0
  case neg => rw [decide_eq_false h1]; rfl
  by_cases h2 : m ≤ 30
  case neg => rw [decide_eq_true h1, decide_eq_false h2, decide_eq_false (show ¬ m < 31 by omega)]; rfl
  obtain ⟨k, rfl⟩ : ∃ k : Nat, m = k := ⟨m.toNat, by omega⟩
  have hk : k < 31 := by omega
  have e1 : ((List.range 31).all fun k => decide (IntKind.u64.wrap (k : Int) = (k : Int)) && decide (Min.min k IntKind.i64.bits = k)) = true := by kernel_rfl
  have e2 := List.all_eq_true.1 e1 k (List.mem_range.2 hk)
  simp only [Bool.and_eq_true, decide_eq_true_eq] at e2
  rw [decide_eq_true h1, decide_eq_true h2, e2.1, decide_eq_false (show ¬ (k : Int) < 0 by omega), decide_eq_true (show (k : Int) < 31 by omega)]
  simp only [cond_true, cond_false, Int.toNat_natCast, e2.2, Bool.true_and]
  have e3 : ((n : Int).fdiv (2 ^ k)) = ((n / 2 ^ k : Nat) : Int) := by
    rw [show ((2 : Int) ^ k) = ((2 ^ k : Nat) : Int) by push_cast; rfl]
    rw [Int.fdiv_eq_ediv_of_nonneg _ (Int.natCast_nonneg _)]
    exact (Int.natCast_ediv n (2 ^ k)).symm
  have hlt : n / 2 ^ k < 2147483648 := Nat.lt_of_le_of_lt (Nat.div_le_self _ _) (by omega)
  have e4 := and64 (a := n / 2 ^ k) (b := 1) (by omega) (by decide)
  rw [e3, show ((1 : Nat) : Int) = 1 from rfl] at *
  rw [e4]
  congr 1
  rw [Bool.eq_iff_iff, Nat.and_one_is_mod, Nat.testBit_eq_decide_div_mod_eq]
  simp only [beq_iff_eq, decide_eq_true_eq]
  omega
theorem n_held_With (s m : Int) (hs : 0 ≤ s ∧ s < 2147483648) : g_held_With s [m] = some (((s.toNat ||| (bitV m).toNat : Nat) : Int)) := by
  obtain ⟨n, rfl⟩ : ∃ n : Nat, s = n := ⟨s.toNat, by omega⟩
  obtain ⟨k, h1, h2, h3⟩ := bitV_nat m
  unfold g_held_With G_held_bits
  simp only [bits_one, optC_some, h1, Int.toNat_natCast]
  rw [or64 (by omega) (by omega)]
def woI (s m : Int) : Int := IntKind.i64.wrap ((BitVec.ofInt IntKind.i64.bits s &&& ~~~BitVec.ofInt IntKind.i64.bits (bitV m)).toNat : Int)
def wiI (s m : Int) : Int := ((s.toNat ||| (bitV m).toNat : Nat) : Int)
theorem n_held_Without (s m : Int) : g_held_Without s [m] = some (woI s m) := by
  unfold g_held_Without G_held_bits woI
  simp only [bits_one, optC_some]
theorem n_ref3_With (s m : Int) (hs : 0 ≤ s ∧ s < 2147483648) (hm : 0 ≤ m ∧ m < 31) : g_ref3_With s [m] = some (wiI s m) := by
  obtain ⟨n, rfl⟩ : ∃ n : Nat, s = n := ⟨s.toNat, by omega⟩
  obtain ⟨k, h1, h2, h3⟩ := bitV_nat m
  unfold g_ref3_With wiI
  have e : L_ref3_With_114_0_0 ((n : Int), [m], 0) = _ := rg_ref3_With_114_0_0 [m] (n : Int) (by simp)
  rw [e]
  unfold rv_ref3_With_114_0_0
  have u0 : ¬ IntKind.u64.wrap m < 0 := by
    have : IntKind.u64.wrap m = m % 18446744073709551616 := by simp [IntKind.wrap, IntKind.signed, IntKind.bits]
    rw [this]; omega
  simp only [rangeO, bd_ref3_With_114_0_0, fn_ref3_With_114_0_0]
  simp only [List.getElem?_cons_zero, optC_some, decide_eq_true hm.1, decide_eq_true (show m ≥ 0 from hm.1), decide_eq_true (show m ≤ 30 by omega), decide_eq_false u0, cond_true, cond_false, one_bit_u m hm]
  have hb : bitV m = ((2 ^ m.toNat : Nat) : Int) := by unfold bitV; rw [if_pos hm]
  rw [← hb, h1, or64 (by omega) (by omega)]
  simp only [optC_some, Int.toNat_natCast]
theorem n_ref3_Without (s m : Int) (hm : 0 ≤ m ∧ m < 31) : g_ref3_Without s [m] = some (woI s m) := by
  unfold g_ref3_Without woI
  have e : L_ref3_Without_115_0_0 (s, [m], 0) = _ := rg_ref3_Without_115_0_0 [m] s (by simp)
  rw [e]
  unfold rv_ref3_Without_115_0_0
  have u0 : ¬ IntKind.u64.wrap m < 0 := by
    have : IntKind.u64.wrap m = m % 18446744073709551616 := by simp [IntKind.wrap, IntKind.signed, IntKind.bits]
    rw [this]; omega
  simp only [rangeO, bd_ref3_Without_115_0_0, fn_ref3_Without_115_0_0]
  simp only [List.getElem?_cons_zero, optC_some, decide_eq_true hm.1, decide_eq_true (show m ≥ 0 from hm.1), decide_eq_true (show m ≤ 30 by omega), decide_eq_false u0, cond_true, cond_false, one_bit_u m hm]
  have hb : bitV m = ((2 ^ m.toNat : Nat) : Int) := by unfold bitV; rw [if_pos hm]
  rw [← hb]
def apI (a b : Int) : Bool := a.toNat &&& b.toNat == 0
theorem list_go (s : Int) (hs : 0 ≤ s ∧ s < 9223372036854775808) : ∀ (k m : Nat) (acc : List Int), m + k = 31 → acc.length ≤ m →
    ∃ r, iterO (fun x => st_held_List_122_0_0 x.1 x.2.1 x.2.2) (k + 1) (s, (m : Int), acc) = some r ∧ (r.length = 0 ↔ acc.length = 0 ∧ ∀ i : Nat, m ≤ i → i < 31 → tb s (i : Int) = false)
  | 0, m, acc, h, ha => by
    refine ⟨acc, ?_, ⟨fun k => ⟨k, fun i h1 h2 => by omega⟩, fun k => k.1⟩⟩
    rw [iterO]
    simp only [st_held_List_122_0_0]
    rw [decide_eq_false (show ¬ (m : Int) < 31 by omega)]
    rfl
  | k + 1, m, acc, h, ha => by
    rw [iterO]
    simp only [st_held_List_122_0_0]
    rw [decide_eq_true (show (m : Int) < 31 by omega), wrap_next (show m < 31 by omega) (by decide)]
    simp only [G_held_Has, n_held_Has s m hs, optC_some, cond_true]
    cases hb : tb s (m : Int)
    · obtain ⟨r, e, q⟩ := list_go s hs k (m + 1) acc (by omega) (by omega)
      refine ⟨r, e, q.trans ⟨fun z => ⟨z.1, fun i h1 h2 => ?_⟩, fun z => ⟨z.1, fun i h1 h2 => z.2 i (by omega) h2⟩⟩⟩
      by_cases hi : i = m
      · subst hi; exact hb
      · exact z.2 i (by omega) h2
    · obtain ⟨r, e, q⟩ := list_go s hs k (m + 1) (acc ++ [(m : Int)]) (by omega) (by simp; omega)
      refine ⟨r, ?_, q.trans ⟨fun z => by simp at z, fun z => ?_⟩⟩
      · simp only [cond_true]
        rw [decide_eq_true (show (acc.length + [(m : Int)].length + 1) * 8 ≤ lim by simp only [List.length_singleton]; unfold lim; omega)]
        exact e
      · have := z.2 m (Nat.le_refl _) (by omega)
        rw [hb] at this; cases this
theorem zero_of_bits {n : Nat} (h : n < 2147483648) (hb : ∀ i, i < 31 → n.testBit i = false) : n = 0 := Nat.eq_of_testBit_eq fun i => by
  rw [Nat.zero_testBit]
  by_cases hi : i < 31
  · exact hb i hi
  · exact Nat.testBit_lt_two_pow (Nat.lt_of_lt_of_le h (Nat.le_trans (by decide : 2147483648 ≤ 2 ^ 31) (Nat.pow_le_pow_right (by decide) (by omega))))
theorem n_held_Apart (a b : Int) (ha : 0 ≤ a ∧ a < 2147483648) (hb : 0 ≤ b ∧ b < 2147483648) : g_held_Apart a b = some (apI a b) := by
  obtain ⟨x, rfl⟩ : ∃ n : Nat, a = n := ⟨a.toNat, by omega⟩
  obtain ⟨y, rfl⟩ : ∃ n : Nat, b = n := ⟨b.toNat, by omega⟩
  unfold g_held_Apart apI G_held_List g_held_List L_held_List_122_0_0
  rw [and64 (by omega) (by omega)]
  have hlt : x &&& y < 2147483648 := Nat.lt_of_le_of_lt Nat.and_le_left (by omega)
  obtain ⟨r, e, q⟩ := list_go ((x &&& y : Nat) : Int) (by omega) 31 0 [] (by decide) (by decide)
  have e2 := iterO_mono (31 + 1) FUEL _ _ (by decide) e
  have e3 : iterO (fun x => st_held_List_122_0_0 x.1 x.2.1 x.2.2) FUEL ((((x &&& y : Nat) : Int), 0, []) : Int × Int × List Int) = some r := e2
  simp only [e3, optC_some, Int.toNat_natCast]
  congr 1
  rw [Bool.eq_iff_iff]
  simp only [beq_iff_eq]
  constructor
  · intro h
    have := (q.1 (by omega)).2
    refine zero_of_bits hlt fun i hi => ?_
    have k := this i (Nat.zero_le _) hi
    unfold tb at k
    rw [decide_eq_true (show (0 : Int) ≤ (i : Int) by omega), decide_eq_true (show (i : Int) < 31 by omega)] at k
    simpa using k
  · intro h
    have := q.2 ⟨rfl, fun i _ _ => by unfold tb; rw [h]; simp⟩
    omega
theorem n_ref3_Apart (a b : Int) (ha : 0 ≤ a ∧ a < 2147483648) (hb : 0 ≤ b ∧ b < 2147483648) : g_ref3_Apart a b = some (apI a b) := by
  obtain ⟨x, rfl⟩ : ∃ n : Nat, a = n := ⟨a.toNat, by omega⟩
  obtain ⟨y, rfl⟩ : ∃ n : Nat, b = n := ⟨b.toNat, by omega⟩
  have hlt : x &&& y < 2147483648 := Nat.lt_of_le_of_lt Nat.and_le_left (by omega)
  unfold g_ref3_Apart apI
  rw [and64 (by omega) (by omega)]
  have := and64 (a := x &&& y) (b := 2147483647) (by omega) (by decide)
  rw [show ((2147483647 : Nat) : Int) = 2147483647 from rfl] at this
  rw [this]
  have e : (x &&& y) &&& 2147483647 = x &&& y := by
    rw [show 2147483647 = 2 ^ 31 - 1 from rfl, Nat.and_two_pow_sub_one_of_lt_two_pow (by omega)]
  rw [e]
  congr 1
  rw [Bool.eq_iff_iff]
  simp only [beq_iff_eq, Int.toNat_natCast]
  omega
end Go.Proofs.Ytbdcblpjemmipaa.Ex

namespace Go.Proofs.Ytbdcblpjemmipaa.Ex
set_option maxRecDepth 100000
set_option linter.unusedVariables false
set_option linter.unusedSimpArgs false
def seesB (t : Int) (ar : Bool) (g h : Int) (e : En) : Bool := e.1 != t && (e.2.1 == ar && (e.2.2.1 == g && apI e.2.2.2.1 h))
def seenS (p : En → Bool) (v : I) (l : List En) : I := l.foldl (fun v e => if p e then iJoin v e.2.2.2.2 else v) v
def seenV (l : List En) (t : Int) (ar : Bool) (g h : Int) : I := seenS (seesB t ar g h) nn l
def gainV (l : List En) (t : Int) (ar : Bool) (g h m : Int) : I := seenS (fun e => seesB t ar g h e && tb e.2.2.2.1 m) nn l
theorem seen_go (t : Int) (ar : Bool) (g h : Int) (hh : 0 ≤ h ∧ h < 2147483648) (b0 b01 b1 b11 : Int) (L : List En) : ∀ (l : List En) (i : Nat) (v : I), (∀ e ∈ l, entOK e) →
    rangeO (fun i s d => bd_tab_Seen_45_0_0 t ar g h b0 b01 b1 b11 L i s.1 s.2 d) (fun s => fn_tab_Seen_45_0_0 t ar g h b0 b01 b1 b11 L s.1 s.2) i l v = some (b0, b01, b1, b11, (seenS (seesB t ar g h) v l).1, (seenS (seesB t ar g h) v l).2)
  | [], i, v, _ => rfl
  | d :: r, i, v, he => by
    have ed := he d (by simp)
    have h1 : bd_tab_Seen_45_0_0 t ar g h b0 b01 b1 b11 L i v.1 v.2 d = some (.inl (if seesB t ar g h d then iJoin v d.2.2.2.2 else v)) := by
      unfold bd_tab_Seen_45_0_0 seesB
      simp only [G_held_Apart, n_held_Apart _ _ ed.h hh, G_itv_Join, n_itv_Join2, optC_some]
      cases d.1 != t <;> cases d.2.1 == ar <;> cases d.2.2.1 == g <;> cases apI d.2.2.2.1 h <;> rfl
    rw [rangeO]
    simp only [h1]
    exact seen_go t ar g h hh b0 b01 b1 b11 L r (i + 1) _ fun e k => he e (List.mem_cons_of_mem _ k)
theorem n_tab_Seen (l : List En) (t : Int) (ar : Bool) (g h : Int) (hh : 0 ≤ h ∧ h < 2147483648) (he : ∀ e ∈ l, entOK e) (hl : l.length < 9223372036854775807) : g_tab_Seen l t ar g h = some (seenV l t ar g h) := by
  unfold g_tab_Seen
  have e : L_tab_Seen_45_0_0 (t, ar, g, h, l, (l.length : Int), 0, 0, 0, 0, 0, 1, 0) = _ := rg_tab_Seen_45_0_0 t ar g h 0 0 0 0 l nn hl
  rw [e]
  unfold rv_tab_Seen_45_0_0
  rw [seen_go t ar g h hh 0 0 0 0 l l 0 nn he]
  rfl
theorem rseen_go (t : Int) (ar : Bool) (g h : Int) (hh : 0 ≤ h ∧ h < 2147483648) (b0 b01 : Int) (L : List En) : ∀ (l : List En) (i : Nat) (v : I), (∀ e ∈ l, entOK e) →
    rangeO (fun i s d => bd_ref12_Seen_28_0_0 t ar g h b0 b01 L i s.1 s.2 d) (fun s => fn_ref12_Seen_28_0_0 t ar g h b0 b01 L s.1 s.2) i l v = some (b0, b01, (seenS (seesB t ar g h) v l).1, (seenS (seesB t ar g h) v l).2)
  | [], i, v, _ => rfl
  | d :: r, i, v, he => by
    have ed := he d (by simp)
    have ha := n_ref3_Apart _ _ ed.h hh
    unfold g_ref3_Apart at ha
    have ha := Option.some.inj ha
    have h1 : bd_ref12_Seen_28_0_0 t ar g h b0 b01 L i v.1 v.2 d = some (.inl (if seesB t ar g h d then iJoin v d.2.2.2.2 else v)) := by
      unfold bd_ref12_Seen_28_0_0 seesB
      rw [ha, join_eq ed.v]
      simp only [G_ref2_Join, n_ref2_Join, optC_some]
      cases d.1 != t <;> cases d.2.1 == ar <;> cases d.2.2.1 == g <;> cases apI d.2.2.2.1 h <;> rfl
    rw [rangeO]
    simp only [h1]
    exact rseen_go t ar g h hh b0 b01 L r (i + 1) _ fun e k => he e (List.mem_cons_of_mem _ k)
theorem n_ref12_Seen (l : List En) (t : Int) (ar : Bool) (g h : Int) (hh : 0 ≤ h ∧ h < 2147483648) (he : ∀ e ∈ l, entOK e) (hl : l.length < 9223372036854775807) : g_ref12_Seen l t ar g h = some (seenV l t ar g h) := by
  unfold g_ref12_Seen
  have e : L_ref12_Seen_28_0_0 (l, t, ar, g, h, 0, 0, 0, 1, 0) = _ := rg_ref12_Seen_28_0_0 t ar g h 0 0 l nn hl
  rw [e]
  unfold rv_ref12_Seen_28_0_0
  rw [rseen_go t ar g h hh 0 0 l l 0 nn he]
  rfl
theorem gain_go (t : Int) (ar : Bool) (g h m : Int) (hh : 0 ≤ h ∧ h < 2147483648) (b1 b11 b2 b21 : Int) (L : List En) : ∀ (l : List En) (i : Nat) (v : I), (∀ e ∈ l, entOK e) →
    rangeO (fun i s d => bd_tab_Gained_45_0_0 t ar g h b1 b11 m b2 b21 L i s.1 s.2 d) (fun s => fn_tab_Gained_45_0_0 t ar g h b1 b11 m b2 b21 L s.1 s.2) i l v =
      some (b1, b11, m, b2, b21, (seenS (fun e => seesB t ar g h e && tb e.2.2.2.1 m) v l).1, (seenS (fun e => seesB t ar g h e && tb e.2.2.2.1 m) v l).2)
  | [], i, v, _ => rfl
  | d :: r, i, v, he => by
    have ed := he d (by simp)
    have h1 : bd_tab_Gained_45_0_0 t ar g h b1 b11 m b2 b21 L i v.1 v.2 d = some (.inl (if seesB t ar g h d && tb d.2.2.2.1 m then iJoin v d.2.2.2.2 else v)) := by
      unfold bd_tab_Gained_45_0_0 seesB
      simp only [G_held_Apart, n_held_Apart _ _ ed.h hh, G_held_Has, n_held_Has d.2.2.2.1 m ⟨ed.h.1, by have := ed.h.2; omega⟩, G_itv_Join, n_itv_Join2, optC_some]
      cases d.1 != t <;> cases d.2.1 == ar <;> cases d.2.2.1 == g <;> cases apI d.2.2.2.1 h <;> cases tb d.2.2.2.1 m <;> rfl
    rw [rangeO]
    simp only [h1]
    exact gain_go t ar g h m hh b1 b11 b2 b21 L r (i + 1) _ fun e k => he e (List.mem_cons_of_mem _ k)
theorem n_tab_Gained (l : List En) (t : Int) (ar : Bool) (g h m : Int) (hh : 0 ≤ h ∧ h < 2147483648) (he : ∀ e ∈ l, entOK e) (hl : l.length < 9223372036854775807) : g_tab_Gained l t ar g h m = some (gainV l t ar g h m) := by
  unfold g_tab_Gained
  have e : L_tab_Gained_45_0_0 (t, ar, g, h, l, (l.length : Int), 0, 0, 0, m, 0, 0, 1, 0) = _ := rg_tab_Gained_45_0_0 t ar g h 0 0 m 0 0 l nn hl
  rw [e]
  unfold rv_tab_Gained_45_0_0
  rw [gain_go t ar g h m hh 0 0 0 0 l l 0 nn he]
  rfl
theorem filt_go (t : Int) (ar : Bool) (g h m b0 b01 : Int) (L : List En) : ∀ (l : List En) (i : Nat) (o : List En), (∀ e ∈ l, entOK e) → o.length + l.length < 1000000000000 →
    rangeO (fun i s d => bd_ref12_Gained_29_0_0 t ar g h m b0 b01 L i s d) (fun s => fn_ref12_Gained_29_0_0 t ar g h m b0 b01 L s) i l o = some (t, ar, g, h, b0, b01, o ++ l.filter fun e => tb e.2.2.2.1 m)
  | [], i, o, _, _ => by simp only [rangeO, List.filter_nil, List.append_nil]; rfl
  | d :: r, i, o, he, hn => by
    have ed := he d (by simp)
    simp only [List.length_cons] at hn
    have h1 : bd_ref12_Gained_29_0_0 t ar g h m b0 b01 L i o d = some (.inl (if tb d.2.2.2.1 m then o ++ [d] else o)) := by
      unfold bd_ref12_Gained_29_0_0
      simp only [G_ref3_Has, n_ref3_Has d.2.2.2.1 m ed.h, optC_some]
      rw [decide_eq_true (show (o.length + [d].length + 1) * 48 ≤ lim by simp only [List.length_singleton]; unfold lim; omega)]
      cases tb d.2.2.2.1 m <;> rfl
    rw [rangeO]
    simp only [h1]
    rw [filt_go t ar g h m b0 b01 L r (i + 1) _ (fun e k => he e (List.mem_cons_of_mem _ k)) (by split <;> (try simp only [List.length_append, List.length_singleton]) <;> omega)]
    cases hb : tb d.2.2.2.1 m
    · simp [hb]
    · simp [hb]
theorem seenS_filter (p q : En → Bool) : ∀ (l : List En) (v : I), seenS p v (l.filter q) = seenS (fun e => p e && q e) v l
  | [], _ => rfl
  | d :: r, v => by
    unfold seenS
    cases hq : q d
    · rw [List.filter_cons_of_neg (by simp [hq]), List.foldl_cons]
      simp only [hq, Bool.and_false, Bool.false_eq_true, if_false]
      exact seenS_filter p q r v
    · rw [List.filter_cons_of_pos hq, List.foldl_cons, List.foldl_cons]
      simp only [hq, Bool.and_true]
      exact seenS_filter p q r _
theorem n_ref12_Gained (l : List En) (t : Int) (ar : Bool) (g h m : Int) (hh : 0 ≤ h ∧ h < 2147483648) (he : ∀ e ∈ l, entOK e) (hl : l.length < 1000000000000) : g_ref12_Gained l t ar g h m = some (gainV l t ar g h m) := by
  unfold g_ref12_Gained
  have e : L_ref12_Gained_29_0_0 (l, t, ar, g, h, m, 0, 0, 0, []) = _ := rg_ref12_Gained_29_0_0 t ar g h m 0 0 l [] (by omega)
  rw [e]
  unfold rv_ref12_Gained_29_0_0
  rw [filt_go t ar g h m 0 0 l l 0 [] he (by simpa using hl)]
  simp only [optC_some, List.nil_append, G_ref12_Seen]
  rw [n_ref12_Seen _ t ar g h hh (fun e k => he e (List.mem_filter.1 k).1) (Nat.lt_of_le_of_lt (List.length_filter_le ..) (by omega))]
  simp only [optC_some]
  unfold seenV gainV
  rw [seenS_filter]
end Go.Proofs.Ytbdcblpjemmipaa.Ex

namespace Go.Proofs.Ytbdcblpjemmipaa.Ex
open Go.Proofs Go.Proofs.Ytbdcblpjemmipaa
set_option maxRecDepth 100000
set_option maxHeartbeats 2000000
set_option linter.unusedVariables false
set_option linter.unusedSimpArgs false
abbrev fn_124_0 := (fun (d : (((List I) × ((List I) × (Int × Unit))) × Unit)) => ((d.1.1, d.1.2.1, d.1.2.2.1) : ((List I) × (List I) × Int)))
def ash_ref11_rows : List Sh := [.dat (.sl tI), .dat (.sl tI)]
def kp_ref11_rows_99_0 : Nat → List Nat := fun c => bif c.beq 0 then [0, 1, 5] else [4]
noncomputable def sp_ref11_rows : Nat → Option (List AV → Prog AV)
  | _ => none
theorem hsp_ref11_rows : ∀ g p, sp_ref11_rows g = some p → SoundA Try.prog g p := by
  intro g p h
  unfold sp_ref11_rows at h
  split at h
  · cases h
noncomputable def cx_ref11_rows0 : Ctx := { tab := tab, spec := sp_ref11_rows, inl := inl, lps := fun _ _ => none, fuel := 40 }
theorem in_ref11_rows0 : InlOk Try.prog cx_ref11_rows0 := ⟨inl_ok, fun _ _ _ _ _ _ _ _ h => nomatch h⟩
theorem cal_ref11_rows0 (g : Nat) : SoundA Try.prog g (evF cx_ref11_rows0 keeps 8 g) := evF_sound (tabOk_of tab_ok) (cmpsOk_of tab_ok cmps_ok) mixed in_ref11_rows0 hsp_ref11_rows keeps 8 g
noncomputable def F_ref11_rows_99_0 (base : Nat) : Tm → Prog (Nat × Tm) := evC cx_ref11_rows0 (evF cx_ref11_rows0 keeps 8) ⟨99, 26, keeps 99, base⟩ 0 (bodyX 99 0)
def s_ref11_rows_99_0_0 : StS := ⟨[(0, .sl tI), (1, .sl tI), (5, .int .i64)], [], 0⟩
def x_ref11_rows_99_0_0_0 : StS := ⟨[(4, .undef)], [], 0⟩
def x_ref11_rows_99_0_0_1 : StS := ⟨[(4, .bool)], [], 0⟩
noncomputable def st_ref11_rows_99_0_0 (s0 : (List I)) (s1 : (List I)) (s5 : Int) : Option (((List I) × (List I) × Int) ⊕ (Unit ⊕ Bool)) :=
  bif decide (s5 < (↑s0.length : Int)) then
 bif decide (0 ≤ s5) then
 optC s0[s5.toNat]? none fun d5 ↦
 bif decide (0 ≤ s5) then
 optC s1[s5.toNat]? none fun d6 ↦
 bif !(d5.1 == d6.1 && d5.2 == d6.2) then some (Sum.inr (Sum.inr false)) else some (Sum.inl (s0, s1, Go.IntKind.i64.wrap (s5 + 1)))
 else none
 else none
 else some (Sum.inr (Sum.inl PUnit.unit))
theorem rn_ref11_rows_99_0_0 (s0 : (List I)) (s1 : (List I)) (s5 : Int) : rdX cx_ref11_rows0 keeps 8 ⟨99, 26, keeps 99, 0⟩ 0 (bodyX 99 0) 0 kp_ref11_rows_99_0 (sT s_ref11_rows_99_0_0 ((s0, s1, s5, ()), ())) (sH s_ref11_rows_99_0_0 ((s0, s1, s5, ()), ())) (rdO (fun T h => (rdS s_ref11_rows_99_0_0 T h).map fn_124_0) (getOr (getE 2 x_ref11_rows_99_0_0_0 (fun (d : ((Unit × Unit) × Unit)) => (() : Unit))) (getE 1 x_ref11_rows_99_0_0_1 (fun (d : ((Bool × Unit) × Unit)) => ((d.1.1) : Bool))))) = st_ref11_rows_99_0_0 s0 s1 s5 := by kernel_rfl
noncomputable def L_ref11_rows_99_0_0 (x : ((List I) × (List I) × Int)) : Option (Unit ⊕ Bool) := iterO (fun x => st_ref11_rows_99_0_0 x.1 x.2.1 x.2.2) FUEL x
noncomputable def q_ref11_rows_99_0 : Nat → Tm → Prog (Nat × Tm) := (varP 0 (fun T h => (rdS s_ref11_rows_99_0_0 T h).map fn_124_0) L_ref11_rows_99_0_0 (fun y => .alt y (altE 2 x_ref11_rows_99_0_0_0 (fun (x : Unit) => ((((), ()), ()) : ((Unit × Unit) × Unit)))) (altE 1 x_ref11_rows_99_0_0_1 (fun (x : Bool) => (((x, ()), ()) : ((Bool × Unit) × Unit))))) (fun _ _ => .fail))
theorem ok_ref11_rows_99_0 : VarOk kp_ref11_rows_99_0 F_ref11_rows_99_0 q_ref11_rows_99_0 := (varX_ok (s := s_ref11_rows_99_0_0) (un := (fun (x : ((List I) × (List I) × Int)) => (((x.1, x.2.1, x.2.2, ()), ()) : (((List I) × ((List I) × (Int × Unit))) × Unit)))) (by rfl) (fun _ => rfl) (getOr_ok (getE_ok (s := x_ref11_rows_99_0_0_0) (un := (fun (x : Unit) => ((((), ()), ()) : ((Unit × Unit) × Unit)))) (by rfl) (fun _ => rfl)) (getE_ok (s := x_ref11_rows_99_0_0_1) (un := (fun (x : Bool) => (((x, ()), ()) : ((Bool × Unit) × Unit)))) (by rfl) (fun _ => rfl))) (step := fun x => st_ref11_rows_99_0_0 x.1 x.2.1 x.2.2) (fun x => rn_ref11_rows_99_0_0 x.1 x.2.1 x.2.2) (fun _ _ e => ⟨_, e⟩) (altOr_ok (altE_ok 2 x_ref11_rows_99_0_0_0 (fun (x : Unit) => ((((), ()), ()) : ((Unit × Unit) × Unit)))) (altE_ok 1 x_ref11_rows_99_0_0_1 (fun (x : Bool) => (((x, ()), ()) : ((Bool × Unit) × Unit))))) (VarOk.fail _ _))
noncomputable def lpI_ref11_rows_99_0 (base : Nat) (T : Tm) : Prog (Nat × Tm) := .norm base (kp_ref11_rows_99_0 0) T (q_ref11_rows_99_0 base)
theorem sndI_ref11_rows_99_0 : SoundC Try.prog 26 (.loop (bodyX 99 0)) lpI_ref11_rows_99_0 := loopK_sound (cx := cx_ref11_rows0) (cal := evF cx_ref11_rows0 keeps 8) (kp := keeps 99) (tabOk_of tab_ok) (cmpsOk_of tab_ok cmps_ok) cal_ref11_rows0 mixed (hl_of (g := 99) (b := 0) in_ref11_rows0 (by kernel_rfl) (by kernel_rfl)) ok_ref11_rows_99_0
noncomputable def lpL_ref11_rows_99_0 : Nat → Tm → Prog (Nat × Tm) := lpI_ref11_rows_99_0
theorem sndL_ref11_rows_99_0 : SoundC Try.prog 26 (.loop (bodyX 99 0)) lpL_ref11_rows_99_0 := sndI_ref11_rows_99_0
noncomputable def lp_ref11_rows : Nat → Nat → Option (Nat → Tm → Prog (Nat × Tm))
  | 99, 0 => some lpL_ref11_rows_99_0
  | _, _ => none
noncomputable def cx_ref11_rows : Ctx := { tab := tab, spec := sp_ref11_rows, inl := inl, lps := lp_ref11_rows, fuel := 40 }
theorem in_ref11_rows : InlOk Try.prog cx_ref11_rows := ⟨inl_ok, fun g fn c hg hb q hq p hp => by
  change lp_ref11_rows g q.1 = some p at hp
  change inl g = some fn at hg
  generalize hq1 : q.1 = b at hp
  unfold lp_ref11_rows at hp
  split at hp
  · cases hp; exact lps_case (inl := inl) hg hb hq hq1 (by kernel_rfl) (by kernel_rfl) sndL_ref11_rows_99_0
  · cases hp⟩
theorem cal_ref11_rows (g : Nat) : SoundA Try.prog g (evF cx_ref11_rows keeps 8 g) := evF_sound (tabOk_of tab_ok) (cmpsOk_of tab_ok cmps_ok) mixed in_ref11_rows hsp_ref11_rows keeps 8 g
noncomputable def g_ref11_rows (a0 : (List I)) (a1 : (List I)) : Option Bool :=
  bif (↑a0.length : Int) != (↑a1.length : Int) then some false
 else optC (L_ref11_rows_99_0_0 (a0, a1, 0)) none fun d4 ↦ Sum.elim (fun e5 ↦ some true) (fun e5 ↦ some e5) d4
theorem raw_ref11_rows (a0 : (List I)) (a1 : (List I)) : evGX cx_ref11_rows keeps 8 99 ash_ref11_rows (.dat .bool) ((a0, a1, ()) : ((List I) × ((List I) × Unit))) = g_ref11_rows a0 a1 := by kernel_rfl
noncomputable def G_ref11_rows (x : ((List I) × ((List I) × Unit))) : Option Bool := g_ref11_rows x.1 x.2.1
noncomputable def con_ref11_rows : List AV → Prog AV := conP true ash_ref11_rows (.dat .bool) G_ref11_rows
theorem snd_ref11_rows : SoundA Try.prog 99 con_ref11_rows := conP_sound (cal_ref11_rows 99) true (by rfl) (by rfl) (fun x r e => (evGX_eq _ _ _ _ _ _ _).trans ((raw_ref11_rows x.1 x.2.1).trans e)) (.inl rfl)
end Go.Proofs.Ytbdcblpjemmipaa.Ex

namespace Go.Proofs.Ytbdcblpjemmipaa.Ex
open Go.Proofs Go.Proofs.Ytbdcblpjemmipaa
set_option maxRecDepth 100000
set_option maxHeartbeats 2000000
set_option linter.unusedVariables false
set_option linter.unusedSimpArgs false
def ash_ref11_Same : List Sh := [.dat tE, .dat tE]
noncomputable def sp_ref11_Same : Nat → Option (List AV → Prog AV)
  | 99 => some (con_ref11_rows)
  | _ => none
theorem hsp_ref11_Same : ∀ g p, sp_ref11_Same g = some p → SoundA Try.prog g p := by
  intro g p h
  unfold sp_ref11_Same at h
  split at h
  · cases h; exact snd_ref11_rows
  · cases h
noncomputable def cx_ref11_Same : Ctx := { tab := tab, spec := sp_ref11_Same, inl := inl, lps := fun _ _ => none, fuel := 40 }
theorem in_ref11_Same : InlOk Try.prog cx_ref11_Same := ⟨inl_ok, fun _ _ _ _ _ _ _ _ h => nomatch h⟩
theorem cal_ref11_Same (g : Nat) : SoundA Try.prog g (evF cx_ref11_Same keeps 8 g) := evF_sound (tabOk_of tab_ok) (cmpsOk_of tab_ok cmps_ok) mixed in_ref11_Same hsp_ref11_Same keeps 8 g
noncomputable def g_ref11_Same (a0 : E) (a1 : E) : Option Bool :=
  bif !a0.1 then some (a0.1 == a1.1)
 else
 bif !a1.1 then some (a0.1 == a1.1)
 else
 optC (G_ref11_rows (a0.2.1, a1.2.1, ())) none fun d3 ↦
 bif d3 then
 optC (G_ref11_rows (a0.2.2.1, a1.2.2.1, ())) none fun d4 ↦
 bif d4 then
 optC (G_ref11_rows (a0.2.2.2.1, a1.2.2.2.1, ())) none fun d5 ↦
 bif d5 then bif a0.2.2.2.2.1 == a1.2.2.2.2.1 then some (a0.2.2.2.2.2 == a1.2.2.2.2.2) else some false
 else some false
 else some false
 else some false
theorem raw_ref11_Same (a0 : E) (a1 : E) : evGX cx_ref11_Same keeps 8 70 ash_ref11_Same (.dat .bool) ((a0, a1, ()) : (E × (E × Unit))) = g_ref11_Same a0 a1 := by kernel_rfl
noncomputable def G_ref11_Same (x : (E × (E × Unit))) : Option Bool := g_ref11_Same x.1 x.2.1
noncomputable def con_ref11_Same : List AV → Prog AV := conP true ash_ref11_Same (.dat .bool) G_ref11_Same
theorem snd_ref11_Same : SoundA Try.prog 70 con_ref11_Same := conP_sound (cal_ref11_Same 70) true (by rfl) (by rfl) (fun x r e => (evGX_eq _ _ _ _ _ _ _).trans ((raw_ref11_Same x.1 x.2.1).trans e)) (.inl rfl)
end Go.Proofs.Ytbdcblpjemmipaa.Ex

namespace Go.Proofs.Ytbdcblpjemmipaa.Ex
open Go.Proofs Go.Proofs.Ytbdcblpjemmipaa
set_option maxRecDepth 100000
set_option maxHeartbeats 2000000
set_option linter.unusedVariables false
set_option linter.unusedSimpArgs false
abbrev fn_126_0 := (fun (d : (((List En) × ((List En) × (Int × Unit))) × Unit)) => ((d.1.1, d.1.2.1, d.1.2.2.1) : ((List En) × (List En) × Int)))
def ash_ref12_Same : List Sh := [.dat (.sl tEn), .dat (.sl tEn)]
def kp_ref12_Same_25_0 : Nat → List Nat := fun c => bif c.beq 0 then [0, 1, 5] else [4]
noncomputable def sp_ref12_Same : Nat → Option (List AV → Prog AV)
  | _ => none
theorem hsp_ref12_Same : ∀ g p, sp_ref12_Same g = some p → SoundA Try.prog g p := by
  intro g p h
  unfold sp_ref12_Same at h
  split at h
  · cases h
noncomputable def cx_ref12_Same0 : Ctx := { tab := tab, spec := sp_ref12_Same, inl := inl, lps := fun _ _ => none, fuel := 40 }
theorem in_ref12_Same0 : InlOk Try.prog cx_ref12_Same0 := ⟨inl_ok, fun _ _ _ _ _ _ _ _ h => nomatch h⟩
theorem cal_ref12_Same0 (g : Nat) : SoundA Try.prog g (evF cx_ref12_Same0 keeps 8 g) := evF_sound (tabOk_of tab_ok) (cmpsOk_of tab_ok cmps_ok) mixed in_ref12_Same0 hsp_ref12_Same keeps 8 g
noncomputable def F_ref12_Same_25_0 (base : Nat) : Tm → Prog (Nat × Tm) := evC cx_ref12_Same0 (evF cx_ref12_Same0 keeps 8) ⟨25, 26, keeps 25, base⟩ 0 (bodyX 25 0)
def s_ref12_Same_25_0_0 : StS := ⟨[(0, .sl tEn), (1, .sl tEn), (5, .int .i64)], [], 0⟩
def x_ref12_Same_25_0_0_0 : StS := ⟨[(4, .undef)], [], 0⟩
def x_ref12_Same_25_0_0_1 : StS := ⟨[(4, .bool)], [], 0⟩
noncomputable def st_ref12_Same_25_0_0 (s0 : (List En)) (s1 : (List En)) (s5 : Int) : Option (((List En) × (List En) × Int) ⊕ (Unit ⊕ Bool)) :=
  bif decide (s5 < (↑s0.length : Int)) then
 bif decide (0 ≤ s5) then
 optC s0[s5.toNat]? none fun d5 ↦
 bif decide (0 ≤ s5) then
 optC s1[s5.toNat]? none fun d6 ↦
 bif
 !(d5.1 == d6.1 &&
 (d5.2.1 == d6.2.1 &&
 (d5.2.2.1 == d6.2.2.1 &&
 (d5.2.2.2.1 == d6.2.2.2.1 && (d5.2.2.2.2.1 == d6.2.2.2.2.1 && d5.2.2.2.2.2 == d6.2.2.2.2.2))))) then
 some (Sum.inr (Sum.inr false))
 else some (Sum.inl (s0, s1, Go.IntKind.i64.wrap (s5 + 1)))
 else none
 else none
 else some (Sum.inr (Sum.inl PUnit.unit))
theorem rn_ref12_Same_25_0_0 (s0 : (List En)) (s1 : (List En)) (s5 : Int) : rdX cx_ref12_Same0 keeps 8 ⟨25, 26, keeps 25, 0⟩ 0 (bodyX 25 0) 0 kp_ref12_Same_25_0 (sT s_ref12_Same_25_0_0 ((s0, s1, s5, ()), ())) (sH s_ref12_Same_25_0_0 ((s0, s1, s5, ()), ())) (rdO (fun T h => (rdS s_ref12_Same_25_0_0 T h).map fn_126_0) (getOr (getE 2 x_ref12_Same_25_0_0_0 (fun (d : ((Unit × Unit) × Unit)) => (() : Unit))) (getE 1 x_ref12_Same_25_0_0_1 (fun (d : ((Bool × Unit) × Unit)) => ((d.1.1) : Bool))))) = st_ref12_Same_25_0_0 s0 s1 s5 := by kernel_rfl
noncomputable def L_ref12_Same_25_0_0 (x : ((List En) × (List En) × Int)) : Option (Unit ⊕ Bool) := iterO (fun x => st_ref12_Same_25_0_0 x.1 x.2.1 x.2.2) FUEL x
noncomputable def q_ref12_Same_25_0 : Nat → Tm → Prog (Nat × Tm) := (varP 0 (fun T h => (rdS s_ref12_Same_25_0_0 T h).map fn_126_0) L_ref12_Same_25_0_0 (fun y => .alt y (altE 2 x_ref12_Same_25_0_0_0 (fun (x : Unit) => ((((), ()), ()) : ((Unit × Unit) × Unit)))) (altE 1 x_ref12_Same_25_0_0_1 (fun (x : Bool) => (((x, ()), ()) : ((Bool × Unit) × Unit))))) (fun _ _ => .fail))
theorem ok_ref12_Same_25_0 : VarOk kp_ref12_Same_25_0 F_ref12_Same_25_0 q_ref12_Same_25_0 := (varX_ok (s := s_ref12_Same_25_0_0) (un := (fun (x : ((List En) × (List En) × Int)) => (((x.1, x.2.1, x.2.2, ()), ()) : (((List En) × ((List En) × (Int × Unit))) × Unit)))) (by rfl) (fun _ => rfl) (getOr_ok (getE_ok (s := x_ref12_Same_25_0_0_0) (un := (fun (x : Unit) => ((((), ()), ()) : ((Unit × Unit) × Unit)))) (by rfl) (fun _ => rfl)) (getE_ok (s := x_ref12_Same_25_0_0_1) (un := (fun (x : Bool) => (((x, ()), ()) : ((Bool × Unit) × Unit)))) (by rfl) (fun _ => rfl))) (step := fun x => st_ref12_Same_25_0_0 x.1 x.2.1 x.2.2) (fun x => rn_ref12_Same_25_0_0 x.1 x.2.1 x.2.2) (fun _ _ e => ⟨_, e⟩) (altOr_ok (altE_ok 2 x_ref12_Same_25_0_0_0 (fun (x : Unit) => ((((), ()), ()) : ((Unit × Unit) × Unit)))) (altE_ok 1 x_ref12_Same_25_0_0_1 (fun (x : Bool) => (((x, ()), ()) : ((Bool × Unit) × Unit))))) (VarOk.fail _ _))
noncomputable def lpI_ref12_Same_25_0 (base : Nat) (T : Tm) : Prog (Nat × Tm) := .norm base (kp_ref12_Same_25_0 0) T (q_ref12_Same_25_0 base)
theorem sndI_ref12_Same_25_0 : SoundC Try.prog 26 (.loop (bodyX 25 0)) lpI_ref12_Same_25_0 := loopK_sound (cx := cx_ref12_Same0) (cal := evF cx_ref12_Same0 keeps 8) (kp := keeps 25) (tabOk_of tab_ok) (cmpsOk_of tab_ok cmps_ok) cal_ref12_Same0 mixed (hl_of (g := 25) (b := 0) in_ref12_Same0 (by kernel_rfl) (by kernel_rfl)) ok_ref12_Same_25_0
noncomputable def lpL_ref12_Same_25_0 : Nat → Tm → Prog (Nat × Tm) := lpI_ref12_Same_25_0
theorem sndL_ref12_Same_25_0 : SoundC Try.prog 26 (.loop (bodyX 25 0)) lpL_ref12_Same_25_0 := sndI_ref12_Same_25_0
noncomputable def lp_ref12_Same : Nat → Nat → Option (Nat → Tm → Prog (Nat × Tm))
  | 25, 0 => some lpL_ref12_Same_25_0
  | _, _ => none
noncomputable def cx_ref12_Same : Ctx := { tab := tab, spec := sp_ref12_Same, inl := inl, lps := lp_ref12_Same, fuel := 40 }
theorem in_ref12_Same : InlOk Try.prog cx_ref12_Same := ⟨inl_ok, fun g fn c hg hb q hq p hp => by
  change lp_ref12_Same g q.1 = some p at hp
  change inl g = some fn at hg
  generalize hq1 : q.1 = b at hp
  unfold lp_ref12_Same at hp
  split at hp
  · cases hp; exact lps_case (inl := inl) hg hb hq hq1 (by kernel_rfl) (by kernel_rfl) sndL_ref12_Same_25_0
  · cases hp⟩
theorem cal_ref12_Same (g : Nat) : SoundA Try.prog g (evF cx_ref12_Same keeps 8 g) := evF_sound (tabOk_of tab_ok) (cmpsOk_of tab_ok cmps_ok) mixed in_ref12_Same hsp_ref12_Same keeps 8 g
noncomputable def g_ref12_Same (a0 : (List En)) (a1 : (List En)) : Option Bool :=
  bif (↑a0.length : Int) != (↑a1.length : Int) then some false
 else optC (L_ref12_Same_25_0_0 (a0, a1, 0)) none fun d4 ↦ Sum.elim (fun e5 ↦ some true) (fun e5 ↦ some e5) d4
theorem raw_ref12_Same (a0 : (List En)) (a1 : (List En)) : evGX cx_ref12_Same keeps 8 25 ash_ref12_Same (.dat .bool) ((a0, a1, ()) : ((List En) × ((List En) × Unit))) = g_ref12_Same a0 a1 := by kernel_rfl
noncomputable def G_ref12_Same (x : ((List En) × ((List En) × Unit))) : Option Bool := g_ref12_Same x.1 x.2.1
noncomputable def con_ref12_Same : List AV → Prog AV := conP true ash_ref12_Same (.dat .bool) G_ref12_Same
theorem snd_ref12_Same : SoundA Try.prog 25 con_ref12_Same := conP_sound (cal_ref12_Same 25) true (by rfl) (by rfl) (fun x r e => (evGX_eq _ _ _ _ _ _ _).trans ((raw_ref12_Same x.1 x.2.1).trans e)) (.inl rfl)
end Go.Proofs.Ytbdcblpjemmipaa.Ex

namespace Go.Proofs.Ytbdcblpjemmipaa.Ex
open Go.Proofs Go.Proofs.Ytbdcblpjemmipaa
set_option maxRecDepth 100000
set_option maxHeartbeats 2000000
set_option linter.unusedVariables false
set_option linter.unusedSimpArgs false
abbrev ty_127_0 : Type := ((Unit × (Unit × (Unit × Unit))) × ((Bool × ((List I) × ((List I) × ((List I) × (Int × (Int × (Bool × ((List I) × ((List I) × ((List I) × (Int × (Int × ((List Int) × ((List En) × ((List Ac) × Unit))))))))))))))) × ((Bool × ((List I) × ((List I) × ((List I) × (Int × (Int × (Bool × ((List I) × ((List I) × ((List I) × (Int × (Int × ((List Int) × ((List En) × ((List Ac) × Unit))))))))))))))) × Unit)))
abbrev ty_127_1 : Type := ((Unit × (Unit × (Bool × Unit))) × ((Bool × ((List I) × ((List I) × ((List I) × (Int × (Int × (Bool × ((List I) × ((List I) × ((List I) × (Int × (Int × ((List Int) × ((List En) × ((List Ac) × Unit))))))))))))))) × ((Bool × ((List I) × ((List I) × ((List I) × (Int × (Int × (Bool × ((List I) × ((List I) × ((List I) × (Int × (Int × ((List Int) × ((List En) × ((List Ac) × Unit))))))))))))))) × Unit)))
abbrev ty_127_2 : Type := ((Unit × (Unit × (Int × Unit))) × ((Bool × ((List I) × ((List I) × ((List I) × (Int × (Int × (Bool × ((List I) × ((List I) × ((List I) × (Int × (Int × ((List Int) × ((List En) × ((List Ac) × Unit))))))))))))))) × ((Bool × ((List I) × ((List I) × ((List I) × (Int × (Int × (Bool × ((List I) × ((List I) × ((List I) × (Int × (Int × ((List Int) × ((List En) × ((List Ac) × Unit))))))))))))))) × Unit)))
abbrev ty_127_3 : Type := (Bool × Bool × (List I) × (List I) × (List I) × Int × Int × Bool × (List I) × (List I) × (List I) × Int × Int × (List Int) × (List En) × (List Ac) × Bool × (List I) × (List I) × (List I) × Int × Int × Bool × (List I) × (List I) × (List I) × Int × Int × (List Int) × (List En) × (List Ac))
abbrev ty_127_4 : Type := (Int × Bool × (List I) × (List I) × (List I) × Int × Int × Bool × (List I) × (List I) × (List I) × Int × Int × (List Int) × (List En) × (List Ac) × Bool × (List I) × (List I) × (List I) × Int × Int × Bool × (List I) × (List I) × (List I) × Int × Int × (List Int) × (List En) × (List Ac))
abbrev ty_127_5 : Type := (Bool × (List I) × (List I) × (List I) × Int × Int × Bool × (List I) × (List I) × (List I) × Int × Int × (List Int) × (List En) × (List Ac) × Bool × (List I) × (List I) × (List I) × Int × Int × Bool × (List I) × (List I) × (List I) × Int × Int × (List Int) × (List En) × (List Ac))
abbrev fn_127_0 := (fun (x : ty_127_3) => ((((), (), x.1, ()), ((x.2.1, x.2.2.1, x.2.2.2.1, x.2.2.2.2.1, x.2.2.2.2.2.1, x.2.2.2.2.2.2.1, x.2.2.2.2.2.2.2.1, x.2.2.2.2.2.2.2.2.1, x.2.2.2.2.2.2.2.2.2.1, x.2.2.2.2.2.2.2.2.2.2.1, x.2.2.2.2.2.2.2.2.2.2.2.1, x.2.2.2.2.2.2.2.2.2.2.2.2.1, x.2.2.2.2.2.2.2.2.2.2.2.2.2.1, x.2.2.2.2.2.2.2.2.2.2.2.2.2.2.1, x.2.2.2.2.2.2.2.2.2.2.2.2.2.2.2.1, ()), (x.2.2.2.2.2.2.2.2.2.2.2.2.2.2.2.2.1, x.2.2.2.2.2.2.2.2.2.2.2.2.2.2.2.2.2.1, x.2.2.2.2.2.2.2.2.2.2.2.2.2.2.2.2.2.2.1, x.2.2.2.2.2.2.2.2.2.2.2.2.2.2.2.2.2.2.2.1, x.2.2.2.2.2.2.2.2.2.2.2.2.2.2.2.2.2.2.2.2.1, x.2.2.2.2.2.2.2.2.2.2.2.2.2.2.2.2.2.2.2.2.2.1, x.2.2.2.2.2.2.2.2.2.2.2.2.2.2.2.2.2.2.2.2.2.2.1, x.2.2.2.2.2.2.2.2.2.2.2.2.2.2.2.2.2.2.2.2.2.2.2.1, x.2.2.2.2.2.2.2.2.2.2.2.2.2.2.2.2.2.2.2.2.2.2.2.2.1, x.2.2.2.2.2.2.2.2.2.2.2.2.2.2.2.2.2.2.2.2.2.2.2.2.2.1, x.2.2.2.2.2.2.2.2.2.2.2.2.2.2.2.2.2.2.2.2.2.2.2.2.2.2.1, x.2.2.2.2.2.2.2.2.2.2.2.2.2.2.2.2.2.2.2.2.2.2.2.2.2.2.2.1, x.2.2.2.2.2.2.2.2.2.2.2.2.2.2.2.2.2.2.2.2.2.2.2.2.2.2.2.2.1, x.2.2.2.2.2.2.2.2.2.2.2.2.2.2.2.2.2.2.2.2.2.2.2.2.2.2.2.2.2.1, x.2.2.2.2.2.2.2.2.2.2.2.2.2.2.2.2.2.2.2.2.2.2.2.2.2.2.2.2.2.2, ()), ())) : ty_127_1))
abbrev fn_127_1 := (fun (x : ty_127_4) => ((((), (), x.1, ()), ((x.2.1, x.2.2.1, x.2.2.2.1, x.2.2.2.2.1, x.2.2.2.2.2.1, x.2.2.2.2.2.2.1, x.2.2.2.2.2.2.2.1, x.2.2.2.2.2.2.2.2.1, x.2.2.2.2.2.2.2.2.2.1, x.2.2.2.2.2.2.2.2.2.2.1, x.2.2.2.2.2.2.2.2.2.2.2.1, x.2.2.2.2.2.2.2.2.2.2.2.2.1, x.2.2.2.2.2.2.2.2.2.2.2.2.2.1, x.2.2.2.2.2.2.2.2.2.2.2.2.2.2.1, x.2.2.2.2.2.2.2.2.2.2.2.2.2.2.2.1, ()), (x.2.2.2.2.2.2.2.2.2.2.2.2.2.2.2.2.1, x.2.2.2.2.2.2.2.2.2.2.2.2.2.2.2.2.2.1, x.2.2.2.2.2.2.2.2.2.2.2.2.2.2.2.2.2.2.1, x.2.2.2.2.2.2.2.2.2.2.2.2.2.2.2.2.2.2.2.1, x.2.2.2.2.2.2.2.2.2.2.2.2.2.2.2.2.2.2.2.2.1, x.2.2.2.2.2.2.2.2.2.2.2.2.2.2.2.2.2.2.2.2.2.1, x.2.2.2.2.2.2.2.2.2.2.2.2.2.2.2.2.2.2.2.2.2.2.1, x.2.2.2.2.2.2.2.2.2.2.2.2.2.2.2.2.2.2.2.2.2.2.2.1, x.2.2.2.2.2.2.2.2.2.2.2.2.2.2.2.2.2.2.2.2.2.2.2.2.1, x.2.2.2.2.2.2.2.2.2.2.2.2.2.2.2.2.2.2.2.2.2.2.2.2.2.1, x.2.2.2.2.2.2.2.2.2.2.2.2.2.2.2.2.2.2.2.2.2.2.2.2.2.2.1, x.2.2.2.2.2.2.2.2.2.2.2.2.2.2.2.2.2.2.2.2.2.2.2.2.2.2.2.1, x.2.2.2.2.2.2.2.2.2.2.2.2.2.2.2.2.2.2.2.2.2.2.2.2.2.2.2.2.1, x.2.2.2.2.2.2.2.2.2.2.2.2.2.2.2.2.2.2.2.2.2.2.2.2.2.2.2.2.2.1, x.2.2.2.2.2.2.2.2.2.2.2.2.2.2.2.2.2.2.2.2.2.2.2.2.2.2.2.2.2.2, ()), ())) : ty_127_2))
abbrev fn_127_2 := (fun (x : ty_127_5) => ((((), (), (), ()), ((x.1, x.2.1, x.2.2.1, x.2.2.2.1, x.2.2.2.2.1, x.2.2.2.2.2.1, x.2.2.2.2.2.2.1, x.2.2.2.2.2.2.2.1, x.2.2.2.2.2.2.2.2.1, x.2.2.2.2.2.2.2.2.2.1, x.2.2.2.2.2.2.2.2.2.2.1, x.2.2.2.2.2.2.2.2.2.2.2.1, x.2.2.2.2.2.2.2.2.2.2.2.2.1, x.2.2.2.2.2.2.2.2.2.2.2.2.2.1, x.2.2.2.2.2.2.2.2.2.2.2.2.2.2.1, ()), (x.2.2.2.2.2.2.2.2.2.2.2.2.2.2.2.1, x.2.2.2.2.2.2.2.2.2.2.2.2.2.2.2.2.1, x.2.2.2.2.2.2.2.2.2.2.2.2.2.2.2.2.2.1, x.2.2.2.2.2.2.2.2.2.2.2.2.2.2.2.2.2.2.1, x.2.2.2.2.2.2.2.2.2.2.2.2.2.2.2.2.2.2.2.1, x.2.2.2.2.2.2.2.2.2.2.2.2.2.2.2.2.2.2.2.2.1, x.2.2.2.2.2.2.2.2.2.2.2.2.2.2.2.2.2.2.2.2.2.1, x.2.2.2.2.2.2.2.2.2.2.2.2.2.2.2.2.2.2.2.2.2.2.1, x.2.2.2.2.2.2.2.2.2.2.2.2.2.2.2.2.2.2.2.2.2.2.2.1, x.2.2.2.2.2.2.2.2.2.2.2.2.2.2.2.2.2.2.2.2.2.2.2.2.1, x.2.2.2.2.2.2.2.2.2.2.2.2.2.2.2.2.2.2.2.2.2.2.2.2.2.1, x.2.2.2.2.2.2.2.2.2.2.2.2.2.2.2.2.2.2.2.2.2.2.2.2.2.2.1, x.2.2.2.2.2.2.2.2.2.2.2.2.2.2.2.2.2.2.2.2.2.2.2.2.2.2.2.1, x.2.2.2.2.2.2.2.2.2.2.2.2.2.2.2.2.2.2.2.2.2.2.2.2.2.2.2.2.1, x.2.2.2.2.2.2.2.2.2.2.2.2.2.2.2.2.2.2.2.2.2.2.2.2.2.2.2.2.2, ()), ())) : ty_127_0))
abbrev fn_127_3 := (fun (d : ty_127_2) => ((d.1.2.2.1, d.2.1.1, d.2.1.2.1, d.2.1.2.2.1, d.2.1.2.2.2.1, d.2.1.2.2.2.2.1, d.2.1.2.2.2.2.2.1, d.2.1.2.2.2.2.2.2.1, d.2.1.2.2.2.2.2.2.2.1, d.2.1.2.2.2.2.2.2.2.2.1, d.2.1.2.2.2.2.2.2.2.2.2.1, d.2.1.2.2.2.2.2.2.2.2.2.2.1, d.2.1.2.2.2.2.2.2.2.2.2.2.2.1, d.2.1.2.2.2.2.2.2.2.2.2.2.2.2.1, d.2.1.2.2.2.2.2.2.2.2.2.2.2.2.2.1, d.2.1.2.2.2.2.2.2.2.2.2.2.2.2.2.2.1, d.2.2.1.1, d.2.2.1.2.1, d.2.2.1.2.2.1, d.2.2.1.2.2.2.1, d.2.2.1.2.2.2.2.1, d.2.2.1.2.2.2.2.2.1, d.2.2.1.2.2.2.2.2.2.1, d.2.2.1.2.2.2.2.2.2.2.1, d.2.2.1.2.2.2.2.2.2.2.2.1, d.2.2.1.2.2.2.2.2.2.2.2.2.1, d.2.2.1.2.2.2.2.2.2.2.2.2.2.1, d.2.2.1.2.2.2.2.2.2.2.2.2.2.2.1, d.2.2.1.2.2.2.2.2.2.2.2.2.2.2.2.1, d.2.2.1.2.2.2.2.2.2.2.2.2.2.2.2.2.1, d.2.2.1.2.2.2.2.2.2.2.2.2.2.2.2.2.2.1) : ty_127_4))
def ash_law13_same : List Sh := [.dat tO, .dat tO]
def kp_law13_same_32_0 : Nat → List Nat := fun c => bif c.beq 0 then [2, 3, 5] else [2, 3, 4]
def kp_law13_same_32_2 : Nat → List Nat := fun c => bif c.beq 0 then [2, 3, 6] else [4]
noncomputable def sp_law13_same : Nat → Option (List AV → Prog AV)
  | 70 => some (con_ref11_Same)
  | 25 => some (con_ref12_Same)
  | _ => none
theorem hsp_law13_same : ∀ g p, sp_law13_same g = some p → SoundA Try.prog g p := by
  intro g p h
  unfold sp_law13_same at h
  split at h
  · cases h; exact snd_ref11_Same
  · cases h; exact snd_ref12_Same
  · cases h
noncomputable def cx_law13_same0 : Ctx := { tab := tab, spec := sp_law13_same, inl := inl, lps := fun _ _ => none, fuel := 40 }
theorem in_law13_same0 : InlOk Try.prog cx_law13_same0 := ⟨inl_ok, fun _ _ _ _ _ _ _ _ h => nomatch h⟩
theorem cal_law13_same0 (g : Nat) : SoundA Try.prog g (evF cx_law13_same0 keeps 8 g) := evF_sound (tabOk_of tab_ok) (cmpsOk_of tab_ok cmps_ok) mixed in_law13_same0 hsp_law13_same keeps 8 g
noncomputable def F_law13_same_32_0 (base : Nat) : Tm → Prog (Nat × Tm) := evC cx_law13_same0 (evF cx_law13_same0 keeps 8) ⟨32, 83, keeps 32, base⟩ 0 (bodyX 32 0)
def s_law13_same_32_0_0 : StS := ⟨[(2, .ptr 0 0), (3, .ptr 1 0), (5, .int .i64)], [(0, .box [.bool, .sl tI, .sl tI, .sl tI, .int .i64, .int .i64, .bool, .sl tI, .sl tI, .sl tI, .int .i64, .int .i64, .sl (.int .i64), .sl tEn, .sl tAc]), (1, .box [.bool, .sl tI, .sl tI, .sl tI, .int .i64, .int .i64, .bool, .sl tI, .sl tI, .sl tI, .int .i64, .int .i64, .sl (.int .i64), .sl tEn, .sl tAc])], 2⟩
def x_law13_same_32_0_0_0 : StS := ⟨[(2, .ptr 0 0), (3, .ptr 1 0), (4, .undef)], [(0, .box [.bool, .sl tI, .sl tI, .sl tI, .int .i64, .int .i64, .bool, .sl tI, .sl tI, .sl tI, .int .i64, .int .i64, .sl (.int .i64), .sl tEn, .sl tAc]), (1, .box [.bool, .sl tI, .sl tI, .sl tI, .int .i64, .int .i64, .bool, .sl tI, .sl tI, .sl tI, .int .i64, .int .i64, .sl (.int .i64), .sl tEn, .sl tAc])], 2⟩
def x_law13_same_32_0_0_1 : StS := ⟨[(2, .ptr 0 0), (3, .ptr 1 0), (4, .bool)], [(0, .box [.bool, .sl tI, .sl tI, .sl tI, .int .i64, .int .i64, .bool, .sl tI, .sl tI, .sl tI, .int .i64, .int .i64, .sl (.int .i64), .sl tEn, .sl tAc]), (1, .box [.bool, .sl tI, .sl tI, .sl tI, .int .i64, .int .i64, .bool, .sl tI, .sl tI, .sl tI, .int .i64, .int .i64, .sl (.int .i64), .sl tEn, .sl tAc])], 2⟩
noncomputable def st_law13_same_32_0_0 (s5 : Int) (b0 : Bool) (b0_1 : (List I)) (b0_2 : (List I)) (b0_3 : (List I)) (b0_4 : Int) (b0_5 : Int) (b0_6 : Bool) (b0_7 : (List I)) (b0_8 : (List I)) (b0_9 : (List I)) (b0_10 : Int) (b0_11 : Int) (b0_12 : (List Int)) (b0_13 : (List En)) (b0_14 : (List Ac)) (b1 : Bool) (b1_1 : (List I)) (b1_2 : (List I)) (b1_3 : (List I)) (b1_4 : Int) (b1_5 : Int) (b1_6 : Bool) (b1_7 : (List I)) (b1_8 : (List I)) (b1_9 : (List I)) (b1_10 : Int) (b1_11 : Int) (b1_12 : (List Int)) (b1_13 : (List En)) (b1_14 : (List Ac)) : Option (ty_127_4 ⊕ (ty_127_5 ⊕ ty_127_3)) :=
  bif decide (s5 < (↑b0_12.length : Int)) then
 bif decide (0 ≤ s5) then
 optC b0_12[s5.toNat]? none fun d34 ↦
 bif decide (0 ≤ s5) then
 optC b1_12[s5.toNat]? none fun d35 ↦
 bif d34 != d35 then
 some
 (Sum.inr
 (Sum.inr
 (false, b0, b0_1, b0_2, b0_3, b0_4, b0_5, b0_6, b0_7, b0_8, b0_9, b0_10, b0_11, b0_12, b0_13, b0_14, b1, b1_1, b1_2, b1_3, b1_4, b1_5, b1_6, b1_7, b1_8, b1_9, b1_10, b1_11,
 b1_12, b1_13, b1_14)))
 else
 some
 (Sum.inl
 (Go.IntKind.i64.wrap (s5 + 1), b0, b0_1, b0_2, b0_3, b0_4, b0_5, b0_6, b0_7, b0_8, b0_9, b0_10, b0_11, b0_12, b0_13, b0_14, b1, b1_1, b1_2, b1_3, b1_4, b1_5, b1_6, b1_7, b1_8, b1_9,
 b1_10, b1_11, b1_12, b1_13, b1_14))
 else none
 else none
 else
 some
 (Sum.inr
 (Sum.inl
 (b0, b0_1, b0_2, b0_3, b0_4, b0_5, b0_6, b0_7, b0_8, b0_9, b0_10, b0_11, b0_12, b0_13, b0_14, b1, b1_1, b1_2, b1_3, b1_4, b1_5, b1_6, b1_7, b1_8, b1_9, b1_10, b1_11, b1_12, b1_13, b1_14)))
theorem rn_law13_same_32_0_0 (s5 : Int) (b0 : Bool) (b0_1 : (List I)) (b0_2 : (List I)) (b0_3 : (List I)) (b0_4 : Int) (b0_5 : Int) (b0_6 : Bool) (b0_7 : (List I)) (b0_8 : (List I)) (b0_9 : (List I)) (b0_10 : Int) (b0_11 : Int) (b0_12 : (List Int)) (b0_13 : (List En)) (b0_14 : (List Ac)) (b1 : Bool) (b1_1 : (List I)) (b1_2 : (List I)) (b1_3 : (List I)) (b1_4 : Int) (b1_5 : Int) (b1_6 : Bool) (b1_7 : (List I)) (b1_8 : (List I)) (b1_9 : (List I)) (b1_10 : Int) (b1_11 : Int) (b1_12 : (List Int)) (b1_13 : (List En)) (b1_14 : (List Ac)) : rdX cx_law13_same0 keeps 8 ⟨32, 83, keeps 32, 0⟩ 0 (bodyX 32 0) 0 kp_law13_same_32_0 (sT s_law13_same_32_0_0 (((), (), s5, ()), ((b0, b0_1, b0_2, b0_3, b0_4, b0_5, b0_6, b0_7, b0_8, b0_9, b0_10, b0_11, b0_12, b0_13, b0_14, ()), (b1, b1_1, b1_2, b1_3, b1_4, b1_5, b1_6, b1_7, b1_8, b1_9, b1_10, b1_11, b1_12, b1_13, b1_14, ()), ()))) (sH s_law13_same_32_0_0 (((), (), s5, ()), ((b0, b0_1, b0_2, b0_3, b0_4, b0_5, b0_6, b0_7, b0_8, b0_9, b0_10, b0_11, b0_12, b0_13, b0_14, ()), (b1, b1_1, b1_2, b1_3, b1_4, b1_5, b1_6, b1_7, b1_8, b1_9, b1_10, b1_11, b1_12, b1_13, b1_14, ()), ()))) (rdO (fun T h => (rdS s_law13_same_32_0_0 T h).map fn_127_3) (getOr (getE 2 x_law13_same_32_0_0_0 (fun (d : ty_127_0) => ((d.2.1.1, d.2.1.2.1, d.2.1.2.2.1, d.2.1.2.2.2.1, d.2.1.2.2.2.2.1, d.2.1.2.2.2.2.2.1, d.2.1.2.2.2.2.2.2.1, d.2.1.2.2.2.2.2.2.2.1, d.2.1.2.2.2.2.2.2.2.2.1, d.2.1.2.2.2.2.2.2.2.2.2.1, d.2.1.2.2.2.2.2.2.2.2.2.2.1, d.2.1.2.2.2.2.2.2.2.2.2.2.2.1, d.2.1.2.2.2.2.2.2.2.2.2.2.2.2.1, d.2.1.2.2.2.2.2.2.2.2.2.2.2.2.2.1, d.2.1.2.2.2.2.2.2.2.2.2.2.2.2.2.2.1, d.2.2.1.1, d.2.2.1.2.1, d.2.2.1.2.2.1, d.2.2.1.2.2.2.1, d.2.2.1.2.2.2.2.1, d.2.2.1.2.2.2.2.2.1, d.2.2.1.2.2.2.2.2.2.1, d.2.2.1.2.2.2.2.2.2.2.1, d.2.2.1.2.2.2.2.2.2.2.2.1, d.2.2.1.2.2.2.2.2.2.2.2.2.1, d.2.2.1.2.2.2.2.2.2.2.2.2.2.1, d.2.2.1.2.2.2.2.2.2.2.2.2.2.2.1, d.2.2.1.2.2.2.2.2.2.2.2.2.2.2.2.1, d.2.2.1.2.2.2.2.2.2.2.2.2.2.2.2.2.1, d.2.2.1.2.2.2.2.2.2.2.2.2.2.2.2.2.2.1) : ty_127_5))) (getE 1 x_law13_same_32_0_0_1 (fun (d : ty_127_1) => ((d.1.2.2.1, d.2.1.1, d.2.1.2.1, d.2.1.2.2.1, d.2.1.2.2.2.1, d.2.1.2.2.2.2.1, d.2.1.2.2.2.2.2.1, d.2.1.2.2.2.2.2.2.1, d.2.1.2.2.2.2.2.2.2.1, d.2.1.2.2.2.2.2.2.2.2.1, d.2.1.2.2.2.2.2.2.2.2.2.1, d.2.1.2.2.2.2.2.2.2.2.2.2.1, d.2.1.2.2.2.2.2.2.2.2.2.2.2.1, d.2.1.2.2.2.2.2.2.2.2.2.2.2.2.1, d.2.1.2.2.2.2.2.2.2.2.2.2.2.2.2.1, d.2.1.2.2.2.2.2.2.2.2.2.2.2.2.2.2.1, d.2.2.1.1, d.2.2.1.2.1, d.2.2.1.2.2.1, d.2.2.1.2.2.2.1, d.2.2.1.2.2.2.2.1, d.2.2.1.2.2.2.2.2.1, d.2.2.1.2.2.2.2.2.2.1, d.2.2.1.2.2.2.2.2.2.2.1, d.2.2.1.2.2.2.2.2.2.2.2.1, d.2.2.1.2.2.2.2.2.2.2.2.2.1, d.2.2.1.2.2.2.2.2.2.2.2.2.2.1, d.2.2.1.2.2.2.2.2.2.2.2.2.2.2.1, d.2.2.1.2.2.2.2.2.2.2.2.2.2.2.2.1, d.2.2.1.2.2.2.2.2.2.2.2.2.2.2.2.2.1, d.2.2.1.2.2.2.2.2.2.2.2.2.2.2.2.2.2.1) : ty_127_3))))) = st_law13_same_32_0_0 s5 b0 b0_1 b0_2 b0_3 b0_4 b0_5 b0_6 b0_7 b0_8 b0_9 b0_10 b0_11 b0_12 b0_13 b0_14 b1 b1_1 b1_2 b1_3 b1_4 b1_5 b1_6 b1_7 b1_8 b1_9 b1_10 b1_11 b1_12 b1_13 b1_14 := by kernel_rfl
noncomputable def L_law13_same_32_0_0 (x : ty_127_4) : Option (ty_127_5 ⊕ ty_127_3) := iterO (fun x => st_law13_same_32_0_0 x.1 x.2.1 x.2.2.1 x.2.2.2.1 x.2.2.2.2.1 x.2.2.2.2.2.1 x.2.2.2.2.2.2.1 x.2.2.2.2.2.2.2.1 x.2.2.2.2.2.2.2.2.1 x.2.2.2.2.2.2.2.2.2.1 x.2.2.2.2.2.2.2.2.2.2.1 x.2.2.2.2.2.2.2.2.2.2.2.1 x.2.2.2.2.2.2.2.2.2.2.2.2.1 x.2.2.2.2.2.2.2.2.2.2.2.2.2.1 x.2.2.2.2.2.2.2.2.2.2.2.2.2.2.1 x.2.2.2.2.2.2.2.2.2.2.2.2.2.2.2.1 x.2.2.2.2.2.2.2.2.2.2.2.2.2.2.2.2.1 x.2.2.2.2.2.2.2.2.2.2.2.2.2.2.2.2.2.1 x.2.2.2.2.2.2.2.2.2.2.2.2.2.2.2.2.2.2.1 x.2.2.2.2.2.2.2.2.2.2.2.2.2.2.2.2.2.2.2.1 x.2.2.2.2.2.2.2.2.2.2.2.2.2.2.2.2.2.2.2.2.1 x.2.2.2.2.2.2.2.2.2.2.2.2.2.2.2.2.2.2.2.2.2.1 x.2.2.2.2.2.2.2.2.2.2.2.2.2.2.2.2.2.2.2.2.2.2.1 x.2.2.2.2.2.2.2.2.2.2.2.2.2.2.2.2.2.2.2.2.2.2.2.1 x.2.2.2.2.2.2.2.2.2.2.2.2.2.2.2.2.2.2.2.2.2.2.2.2.1 x.2.2.2.2.2.2.2.2.2.2.2.2.2.2.2.2.2.2.2.2.2.2.2.2.2.1 x.2.2.2.2.2.2.2.2.2.2.2.2.2.2.2.2.2.2.2.2.2.2.2.2.2.2.1 x.2.2.2.2.2.2.2.2.2.2.2.2.2.2.2.2.2.2.2.2.2.2.2.2.2.2.2.1 x.2.2.2.2.2.2.2.2.2.2.2.2.2.2.2.2.2.2.2.2.2.2.2.2.2.2.2.2.1 x.2.2.2.2.2.2.2.2.2.2.2.2.2.2.2.2.2.2.2.2.2.2.2.2.2.2.2.2.2.1 x.2.2.2.2.2.2.2.2.2.2.2.2.2.2.2.2.2.2.2.2.2.2.2.2.2.2.2.2.2.2) FUEL x
noncomputable def q_law13_same_32_0 : Nat → Tm → Prog (Nat × Tm) := (varP 0 (fun T h => (rdS s_law13_same_32_0_0 T h).map fn_127_3) L_law13_same_32_0_0 (fun y => .alt y (altE 2 x_law13_same_32_0_0_0 fn_127_2) (altE 1 x_law13_same_32_0_0_1 fn_127_0)) (fun _ _ => .fail))
theorem ok_law13_same_32_0 : VarOk kp_law13_same_32_0 F_law13_same_32_0 q_law13_same_32_0 := (varX_ok (s := s_law13_same_32_0_0) (un := fn_127_1) (by rfl) (fun _ => rfl) (getOr_ok (getE_ok (s := x_law13_same_32_0_0_0) (un := fn_127_2) (by rfl) (fun _ => rfl)) (getE_ok (s := x_law13_same_32_0_0_1) (un := fn_127_0) (by rfl) (fun _ => rfl))) (step := fun x => st_law13_same_32_0_0 x.1 x.2.1 x.2.2.1 x.2.2.2.1 x.2.2.2.2.1 x.2.2.2.2.2.1 x.2.2.2.2.2.2.1 x.2.2.2.2.2.2.2.1 x.2.2.2.2.2.2.2.2.1 x.2.2.2.2.2.2.2.2.2.1 x.2.2.2.2.2.2.2.2.2.2.1 x.2.2.2.2.2.2.2.2.2.2.2.1 x.2.2.2.2.2.2.2.2.2.2.2.2.1 x.2.2.2.2.2.2.2.2.2.2.2.2.2.1 x.2.2.2.2.2.2.2.2.2.2.2.2.2.2.1 x.2.2.2.2.2.2.2.2.2.2.2.2.2.2.2.1 x.2.2.2.2.2.2.2.2.2.2.2.2.2.2.2.2.1 x.2.2.2.2.2.2.2.2.2.2.2.2.2.2.2.2.2.1 x.2.2.2.2.2.2.2.2.2.2.2.2.2.2.2.2.2.2.1 x.2.2.2.2.2.2.2.2.2.2.2.2.2.2.2.2.2.2.2.1 x.2.2.2.2.2.2.2.2.2.2.2.2.2.2.2.2.2.2.2.2.1 x.2.2.2.2.2.2.2.2.2.2.2.2.2.2.2.2.2.2.2.2.2.1 x.2.2.2.2.2.2.2.2.2.2.2.2.2.2.2.2.2.2.2.2.2.2.1 x.2.2.2.2.2.2.2.2.2.2.2.2.2.2.2.2.2.2.2.2.2.2.2.1 x.2.2.2.2.2.2.2.2.2.2.2.2.2.2.2.2.2.2.2.2.2.2.2.2.1 x.2.2.2.2.2.2.2.2.2.2.2.2.2.2.2.2.2.2.2.2.2.2.2.2.2.1 x.2.2.2.2.2.2.2.2.2.2.2.2.2.2.2.2.2.2.2.2.2.2.2.2.2.2.1 x.2.2.2.2.2.2.2.2.2.2.2.2.2.2.2.2.2.2.2.2.2.2.2.2.2.2.2.1 x.2.2.2.2.2.2.2.2.2.2.2.2.2.2.2.2.2.2.2.2.2.2.2.2.2.2.2.2.1 x.2.2.2.2.2.2.2.2.2.2.2.2.2.2.2.2.2.2.2.2.2.2.2.2.2.2.2.2.2.1 x.2.2.2.2.2.2.2.2.2.2.2.2.2.2.2.2.2.2.2.2.2.2.2.2.2.2.2.2.2.2) (fun x => rn_law13_same_32_0_0 x.1 x.2.1 x.2.2.1 x.2.2.2.1 x.2.2.2.2.1 x.2.2.2.2.2.1 x.2.2.2.2.2.2.1 x.2.2.2.2.2.2.2.1 x.2.2.2.2.2.2.2.2.1 x.2.2.2.2.2.2.2.2.2.1 x.2.2.2.2.2.2.2.2.2.2.1 x.2.2.2.2.2.2.2.2.2.2.2.1 x.2.2.2.2.2.2.2.2.2.2.2.2.1 x.2.2.2.2.2.2.2.2.2.2.2.2.2.1 x.2.2.2.2.2.2.2.2.2.2.2.2.2.2.1 x.2.2.2.2.2.2.2.2.2.2.2.2.2.2.2.1 x.2.2.2.2.2.2.2.2.2.2.2.2.2.2.2.2.1 x.2.2.2.2.2.2.2.2.2.2.2.2.2.2.2.2.2.1 x.2.2.2.2.2.2.2.2.2.2.2.2.2.2.2.2.2.2.1 x.2.2.2.2.2.2.2.2.2.2.2.2.2.2.2.2.2.2.2.1 x.2.2.2.2.2.2.2.2.2.2.2.2.2.2.2.2.2.2.2.2.1 x.2.2.2.2.2.2.2.2.2.2.2.2.2.2.2.2.2.2.2.2.2.1 x.2.2.2.2.2.2.2.2.2.2.2.2.2.2.2.2.2.2.2.2.2.2.1 x.2.2.2.2.2.2.2.2.2.2.2.2.2.2.2.2.2.2.2.2.2.2.2.1 x.2.2.2.2.2.2.2.2.2.2.2.2.2.2.2.2.2.2.2.2.2.2.2.2.1 x.2.2.2.2.2.2.2.2.2.2.2.2.2.2.2.2.2.2.2.2.2.2.2.2.2.1 x.2.2.2.2.2.2.2.2.2.2.2.2.2.2.2.2.2.2.2.2.2.2.2.2.2.2.1 x.2.2.2.2.2.2.2.2.2.2.2.2.2.2.2.2.2.2.2.2.2.2.2.2.2.2.2.1 x.2.2.2.2.2.2.2.2.2.2.2.2.2.2.2.2.2.2.2.2.2.2.2.2.2.2.2.2.1 x.2.2.2.2.2.2.2.2.2.2.2.2.2.2.2.2.2.2.2.2.2.2.2.2.2.2.2.2.2.1 x.2.2.2.2.2.2.2.2.2.2.2.2.2.2.2.2.2.2.2.2.2.2.2.2.2.2.2.2.2.2) (fun _ _ e => ⟨_, e⟩) (altOr_ok (altE_ok 2 x_law13_same_32_0_0_0 fn_127_2) (altE_ok 1 x_law13_same_32_0_0_1 fn_127_0)) (VarOk.fail _ _))
noncomputable def lpI_law13_same_32_0 (base : Nat) (T : Tm) : Prog (Nat × Tm) := .norm base (kp_law13_same_32_0 0) T (q_law13_same_32_0 base)
theorem sndI_law13_same_32_0 : SoundC Try.prog 83 (.loop (bodyX 32 0)) lpI_law13_same_32_0 := loopK_sound (cx := cx_law13_same0) (cal := evF cx_law13_same0 keeps 8) (kp := keeps 32) (tabOk_of tab_ok) (cmpsOk_of tab_ok cmps_ok) cal_law13_same0 mixed (hl_of (g := 32) (b := 0) in_law13_same0 (by kernel_rfl) (by kernel_rfl)) ok_law13_same_32_0
noncomputable def lpL_law13_same_32_0 : Nat → Tm → Prog (Nat × Tm) := lpI_law13_same_32_0
theorem sndL_law13_same_32_0 : SoundC Try.prog 83 (.loop (bodyX 32 0)) lpL_law13_same_32_0 := sndI_law13_same_32_0
noncomputable def lp_law13_same1 : Nat → Nat → Option (Nat → Tm → Prog (Nat × Tm))
  | 32, 0 => some lpL_law13_same_32_0
  | _, _ => none
noncomputable def cx_law13_same1 : Ctx := { tab := tab, spec := sp_law13_same, inl := inl, lps := lp_law13_same1, fuel := 40 }
theorem in_law13_same1 : InlOk Try.prog cx_law13_same1 := ⟨inl_ok, fun g fn c hg hb q hq p hp => by
  change lp_law13_same1 g q.1 = some p at hp
  change inl g = some fn at hg
  generalize hq1 : q.1 = b at hp
  unfold lp_law13_same1 at hp
  split at hp
  · cases hp; exact lps_case (inl := inl) hg hb hq hq1 (by kernel_rfl) (by kernel_rfl) sndL_law13_same_32_0
  · cases hp⟩
theorem cal_law13_same1 (g : Nat) : SoundA Try.prog g (evF cx_law13_same1 keeps 8 g) := evF_sound (tabOk_of tab_ok) (cmpsOk_of tab_ok cmps_ok) mixed in_law13_same1 hsp_law13_same keeps 8 g
noncomputable def F_law13_same_32_2 (base : Nat) : Tm → Prog (Nat × Tm) := evC cx_law13_same1 (evF cx_law13_same1 keeps 8) ⟨32, 83, keeps 32, base⟩ 2 (bodyX 32 2)
def s_law13_same_32_2_0 : StS := ⟨[(2, .ptr 0 0), (3, .ptr 1 0), (6, .int .i64)], [(0, .box [.bool, .sl tI, .sl tI, .sl tI, .int .i64, .int .i64, .bool, .sl tI, .sl tI, .sl tI, .int .i64, .int .i64, .sl (.int .i64), .sl tEn, .sl tAc]), (1, .box [.bool, .sl tI, .sl tI, .sl tI, .int .i64, .int .i64, .bool, .sl tI, .sl tI, .sl tI, .int .i64, .int .i64, .sl (.int .i64), .sl tEn, .sl tAc])], 2⟩
def x_law13_same_32_2_0_0 : StS := ⟨[(4, .undef)], [], 0⟩
def x_law13_same_32_2_0_1 : StS := ⟨[(4, .bool)], [], 0⟩
noncomputable def st_law13_same_32_2_0 (s6 : Int) (b0 : Bool) (b0_1 : (List I)) (b0_2 : (List I)) (b0_3 : (List I)) (b0_4 : Int) (b0_5 : Int) (b0_6 : Bool) (b0_7 : (List I)) (b0_8 : (List I)) (b0_9 : (List I)) (b0_10 : Int) (b0_11 : Int) (b0_12 : (List Int)) (b0_13 : (List En)) (b0_14 : (List Ac)) (b1 : Bool) (b1_1 : (List I)) (b1_2 : (List I)) (b1_3 : (List I)) (b1_4 : Int) (b1_5 : Int) (b1_6 : Bool) (b1_7 : (List I)) (b1_8 : (List I)) (b1_9 : (List I)) (b1_10 : Int) (b1_11 : Int) (b1_12 : (List Int)) (b1_13 : (List En)) (b1_14 : (List Ac)) : Option (ty_127_4 ⊕ (Unit ⊕ Bool)) :=
  bif decide (s6 < (↑b0_14.length : Int)) then
 bif decide (0 ≤ s6) then
 optC b0_14[s6.toNat]? none fun d34 ↦
 bif decide (0 ≤ s6) then
 optC b1_14[s6.toNat]? none fun d35 ↦
 bif
 !(d34.1 == d35.1 &&
 (d34.2.1 == d35.2.1 &&
 (d34.2.2.1 == d35.2.2.1 &&
 (d34.2.2.2.1 == d35.2.2.2.1 && (d34.2.2.2.2.1 == d35.2.2.2.2.1 && d34.2.2.2.2.2 == d35.2.2.2.2.2))))) then
 some (Sum.inr (Sum.inr false))
 else
 some
 (Sum.inl
 (Go.IntKind.i64.wrap (s6 + 1), b0, b0_1, b0_2, b0_3, b0_4, b0_5, b0_6, b0_7, b0_8, b0_9, b0_10, b0_11, b0_12, b0_13, b0_14, b1, b1_1, b1_2, b1_3, b1_4, b1_5, b1_6, b1_7, b1_8, b1_9,
 b1_10, b1_11, b1_12, b1_13, b1_14))
 else none
 else none
 else some (Sum.inr (Sum.inl PUnit.unit))
theorem rn_law13_same_32_2_0 (s6 : Int) (b0 : Bool) (b0_1 : (List I)) (b0_2 : (List I)) (b0_3 : (List I)) (b0_4 : Int) (b0_5 : Int) (b0_6 : Bool) (b0_7 : (List I)) (b0_8 : (List I)) (b0_9 : (List I)) (b0_10 : Int) (b0_11 : Int) (b0_12 : (List Int)) (b0_13 : (List En)) (b0_14 : (List Ac)) (b1 : Bool) (b1_1 : (List I)) (b1_2 : (List I)) (b1_3 : (List I)) (b1_4 : Int) (b1_5 : Int) (b1_6 : Bool) (b1_7 : (List I)) (b1_8 : (List I)) (b1_9 : (List I)) (b1_10 : Int) (b1_11 : Int) (b1_12 : (List Int)) (b1_13 : (List En)) (b1_14 : (List Ac)) : rdX cx_law13_same1 keeps 8 ⟨32, 83, keeps 32, 0⟩ 2 (bodyX 32 2) 0 kp_law13_same_32_2 (sT s_law13_same_32_2_0 (((), (), s6, ()), ((b0, b0_1, b0_2, b0_3, b0_4, b0_5, b0_6, b0_7, b0_8, b0_9, b0_10, b0_11, b0_12, b0_13, b0_14, ()), (b1, b1_1, b1_2, b1_3, b1_4, b1_5, b1_6, b1_7, b1_8, b1_9, b1_10, b1_11, b1_12, b1_13, b1_14, ()), ()))) (sH s_law13_same_32_2_0 (((), (), s6, ()), ((b0, b0_1, b0_2, b0_3, b0_4, b0_5, b0_6, b0_7, b0_8, b0_9, b0_10, b0_11, b0_12, b0_13, b0_14, ()), (b1, b1_1, b1_2, b1_3, b1_4, b1_5, b1_6, b1_7, b1_8, b1_9, b1_10, b1_11, b1_12, b1_13, b1_14, ()), ()))) (rdO (fun T h => (rdS s_law13_same_32_2_0 T h).map fn_127_3) (getOr (getE 4 x_law13_same_32_2_0_0 (fun (d : ((Unit × Unit) × Unit)) => (() : Unit))) (getE 1 x_law13_same_32_2_0_1 (fun (d : ((Bool × Unit) × Unit)) => ((d.1.1) : Bool))))) = st_law13_same_32_2_0 s6 b0 b0_1 b0_2 b0_3 b0_4 b0_5 b0_6 b0_7 b0_8 b0_9 b0_10 b0_11 b0_12 b0_13 b0_14 b1 b1_1 b1_2 b1_3 b1_4 b1_5 b1_6 b1_7 b1_8 b1_9 b1_10 b1_11 b1_12 b1_13 b1_14 := by kernel_rfl
noncomputable def L_law13_same_32_2_0 (x : ty_127_4) : Option (Unit ⊕ Bool) := iterO (fun x => st_law13_same_32_2_0 x.1 x.2.1 x.2.2.1 x.2.2.2.1 x.2.2.2.2.1 x.2.2.2.2.2.1 x.2.2.2.2.2.2.1 x.2.2.2.2.2.2.2.1 x.2.2.2.2.2.2.2.2.1 x.2.2.2.2.2.2.2.2.2.1 x.2.2.2.2.2.2.2.2.2.2.1 x.2.2.2.2.2.2.2.2.2.2.2.1 x.2.2.2.2.2.2.2.2.2.2.2.2.1 x.2.2.2.2.2.2.2.2.2.2.2.2.2.1 x.2.2.2.2.2.2.2.2.2.2.2.2.2.2.1 x.2.2.2.2.2.2.2.2.2.2.2.2.2.2.2.1 x.2.2.2.2.2.2.2.2.2.2.2.2.2.2.2.2.1 x.2.2.2.2.2.2.2.2.2.2.2.2.2.2.2.2.2.1 x.2.2.2.2.2.2.2.2.2.2.2.2.2.2.2.2.2.2.1 x.2.2.2.2.2.2.2.2.2.2.2.2.2.2.2.2.2.2.2.1 x.2.2.2.2.2.2.2.2.2.2.2.2.2.2.2.2.2.2.2.2.1 x.2.2.2.2.2.2.2.2.2.2.2.2.2.2.2.2.2.2.2.2.2.1 x.2.2.2.2.2.2.2.2.2.2.2.2.2.2.2.2.2.2.2.2.2.2.1 x.2.2.2.2.2.2.2.2.2.2.2.2.2.2.2.2.2.2.2.2.2.2.2.1 x.2.2.2.2.2.2.2.2.2.2.2.2.2.2.2.2.2.2.2.2.2.2.2.2.1 x.2.2.2.2.2.2.2.2.2.2.2.2.2.2.2.2.2.2.2.2.2.2.2.2.2.1 x.2.2.2.2.2.2.2.2.2.2.2.2.2.2.2.2.2.2.2.2.2.2.2.2.2.2.1 x.2.2.2.2.2.2.2.2.2.2.2.2.2.2.2.2.2.2.2.2.2.2.2.2.2.2.2.1 x.2.2.2.2.2.2.2.2.2.2.2.2.2.2.2.2.2.2.2.2.2.2.2.2.2.2.2.2.1 x.2.2.2.2.2.2.2.2.2.2.2.2.2.2.2.2.2.2.2.2.2.2.2.2.2.2.2.2.2.1 x.2.2.2.2.2.2.2.2.2.2.2.2.2.2.2.2.2.2.2.2.2.2.2.2.2.2.2.2.2.2) FUEL x
noncomputable def q_law13_same_32_2 : Nat → Tm → Prog (Nat × Tm) := (varP 0 (fun T h => (rdS s_law13_same_32_2_0 T h).map fn_127_3) L_law13_same_32_2_0 (fun y => .alt y (altE 4 x_law13_same_32_2_0_0 (fun (x : Unit) => ((((), ()), ()) : ((Unit × Unit) × Unit)))) (altE 1 x_law13_same_32_2_0_1 (fun (x : Bool) => (((x, ()), ()) : ((Bool × Unit) × Unit))))) (fun _ _ => .fail))
theorem ok_law13_same_32_2 : VarOk kp_law13_same_32_2 F_law13_same_32_2 q_law13_same_32_2 := (varX_ok (s := s_law13_same_32_2_0) (un := fn_127_1) (by rfl) (fun _ => rfl) (getOr_ok (getE_ok (s := x_law13_same_32_2_0_0) (un := (fun (x : Unit) => ((((), ()), ()) : ((Unit × Unit) × Unit)))) (by rfl) (fun _ => rfl)) (getE_ok (s := x_law13_same_32_2_0_1) (un := (fun (x : Bool) => (((x, ()), ()) : ((Bool × Unit) × Unit)))) (by rfl) (fun _ => rfl))) (step := fun x => st_law13_same_32_2_0 x.1 x.2.1 x.2.2.1 x.2.2.2.1 x.2.2.2.2.1 x.2.2.2.2.2.1 x.2.2.2.2.2.2.1 x.2.2.2.2.2.2.2.1 x.2.2.2.2.2.2.2.2.1 x.2.2.2.2.2.2.2.2.2.1 x.2.2.2.2.2.2.2.2.2.2.1 x.2.2.2.2.2.2.2.2.2.2.2.1 x.2.2.2.2.2.2.2.2.2.2.2.2.1 x.2.2.2.2.2.2.2.2.2.2.2.2.2.1 x.2.2.2.2.2.2.2.2.2.2.2.2.2.2.1 x.2.2.2.2.2.2.2.2.2.2.2.2.2.2.2.1 x.2.2.2.2.2.2.2.2.2.2.2.2.2.2.2.2.1 x.2.2.2.2.2.2.2.2.2.2.2.2.2.2.2.2.2.1 x.2.2.2.2.2.2.2.2.2.2.2.2.2.2.2.2.2.2.1 x.2.2.2.2.2.2.2.2.2.2.2.2.2.2.2.2.2.2.2.1 x.2.2.2.2.2.2.2.2.2.2.2.2.2.2.2.2.2.2.2.2.1 x.2.2.2.2.2.2.2.2.2.2.2.2.2.2.2.2.2.2.2.2.2.1 x.2.2.2.2.2.2.2.2.2.2.2.2.2.2.2.2.2.2.2.2.2.2.1 x.2.2.2.2.2.2.2.2.2.2.2.2.2.2.2.2.2.2.2.2.2.2.2.1 x.2.2.2.2.2.2.2.2.2.2.2.2.2.2.2.2.2.2.2.2.2.2.2.2.1 x.2.2.2.2.2.2.2.2.2.2.2.2.2.2.2.2.2.2.2.2.2.2.2.2.2.1 x.2.2.2.2.2.2.2.2.2.2.2.2.2.2.2.2.2.2.2.2.2.2.2.2.2.2.1 x.2.2.2.2.2.2.2.2.2.2.2.2.2.2.2.2.2.2.2.2.2.2.2.2.2.2.2.1 x.2.2.2.2.2.2.2.2.2.2.2.2.2.2.2.2.2.2.2.2.2.2.2.2.2.2.2.2.1 x.2.2.2.2.2.2.2.2.2.2.2.2.2.2.2.2.2.2.2.2.2.2.2.2.2.2.2.2.2.1 x.2.2.2.2.2.2.2.2.2.2.2.2.2.2.2.2.2.2.2.2.2.2.2.2.2.2.2.2.2.2) (fun x => rn_law13_same_32_2_0 x.1 x.2.1 x.2.2.1 x.2.2.2.1 x.2.2.2.2.1 x.2.2.2.2.2.1 x.2.2.2.2.2.2.1 x.2.2.2.2.2.2.2.1 x.2.2.2.2.2.2.2.2.1 x.2.2.2.2.2.2.2.2.2.1 x.2.2.2.2.2.2.2.2.2.2.1 x.2.2.2.2.2.2.2.2.2.2.2.1 x.2.2.2.2.2.2.2.2.2.2.2.2.1 x.2.2.2.2.2.2.2.2.2.2.2.2.2.1 x.2.2.2.2.2.2.2.2.2.2.2.2.2.2.1 x.2.2.2.2.2.2.2.2.2.2.2.2.2.2.2.1 x.2.2.2.2.2.2.2.2.2.2.2.2.2.2.2.2.1 x.2.2.2.2.2.2.2.2.2.2.2.2.2.2.2.2.2.1 x.2.2.2.2.2.2.2.2.2.2.2.2.2.2.2.2.2.2.1 x.2.2.2.2.2.2.2.2.2.2.2.2.2.2.2.2.2.2.2.1 x.2.2.2.2.2.2.2.2.2.2.2.2.2.2.2.2.2.2.2.2.1 x.2.2.2.2.2.2.2.2.2.2.2.2.2.2.2.2.2.2.2.2.2.1 x.2.2.2.2.2.2.2.2.2.2.2.2.2.2.2.2.2.2.2.2.2.2.1 x.2.2.2.2.2.2.2.2.2.2.2.2.2.2.2.2.2.2.2.2.2.2.2.1 x.2.2.2.2.2.2.2.2.2.2.2.2.2.2.2.2.2.2.2.2.2.2.2.2.1 x.2.2.2.2.2.2.2.2.2.2.2.2.2.2.2.2.2.2.2.2.2.2.2.2.2.1 x.2.2.2.2.2.2.2.2.2.2.2.2.2.2.2.2.2.2.2.2.2.2.2.2.2.2.1 x.2.2.2.2.2.2.2.2.2.2.2.2.2.2.2.2.2.2.2.2.2.2.2.2.2.2.2.1 x.2.2.2.2.2.2.2.2.2.2.2.2.2.2.2.2.2.2.2.2.2.2.2.2.2.2.2.2.1 x.2.2.2.2.2.2.2.2.2.2.2.2.2.2.2.2.2.2.2.2.2.2.2.2.2.2.2.2.2.1 x.2.2.2.2.2.2.2.2.2.2.2.2.2.2.2.2.2.2.2.2.2.2.2.2.2.2.2.2.2.2) (fun _ _ e => ⟨_, e⟩) (altOr_ok (altE_ok 4 x_law13_same_32_2_0_0 (fun (x : Unit) => ((((), ()), ()) : ((Unit × Unit) × Unit)))) (altE_ok 1 x_law13_same_32_2_0_1 (fun (x : Bool) => (((x, ()), ()) : ((Bool × Unit) × Unit))))) (VarOk.fail _ _))
noncomputable def lpI_law13_same_32_2 (base : Nat) (T : Tm) : Prog (Nat × Tm) := .norm base (kp_law13_same_32_2 0) T (q_law13_same_32_2 base)
theorem sndI_law13_same_32_2 : SoundC Try.prog 83 (.loop (bodyX 32 2)) lpI_law13_same_32_2 := loopK_sound (cx := cx_law13_same1) (cal := evF cx_law13_same1 keeps 8) (kp := keeps 32) (tabOk_of tab_ok) (cmpsOk_of tab_ok cmps_ok) cal_law13_same1 mixed (hl_of (g := 32) (b := 2) in_law13_same1 (by kernel_rfl) (by kernel_rfl)) ok_law13_same_32_2
noncomputable def lpL_law13_same_32_2 : Nat → Tm → Prog (Nat × Tm) := lpI_law13_same_32_2
theorem sndL_law13_same_32_2 : SoundC Try.prog 83 (.loop (bodyX 32 2)) lpL_law13_same_32_2 := sndI_law13_same_32_2
noncomputable def lp_law13_same : Nat → Nat → Option (Nat → Tm → Prog (Nat × Tm))
  | 32, 0 => some lpL_law13_same_32_0
  | 32, 2 => some lpL_law13_same_32_2
  | _, _ => none
noncomputable def cx_law13_same : Ctx := { tab := tab, spec := sp_law13_same, inl := inl, lps := lp_law13_same, fuel := 40 }
theorem in_law13_same : InlOk Try.prog cx_law13_same := ⟨inl_ok, fun g fn c hg hb q hq p hp => by
  change lp_law13_same g q.1 = some p at hp
  change inl g = some fn at hg
  generalize hq1 : q.1 = b at hp
  unfold lp_law13_same at hp
  split at hp
  · cases hp; exact lps_case (inl := inl) hg hb hq hq1 (by kernel_rfl) (by kernel_rfl) sndL_law13_same_32_0
  · cases hp; exact lps_case (inl := inl) hg hb hq hq1 (by kernel_rfl) (by kernel_rfl) sndL_law13_same_32_2
  · cases hp⟩
theorem cal_law13_same (g : Nat) : SoundA Try.prog g (evF cx_law13_same keeps 8 g) := evF_sound (tabOk_of tab_ok) (cmpsOk_of tab_ok cmps_ok) mixed in_law13_same hsp_law13_same keeps 8 g
noncomputable def g_law13_same (a0 : O) (a1 : O) : Option Bool :=
  optC (G_ref11_Same (a0.1, a1.1, ())) none fun d5 ↦
 bif !d5 then some false
 else
 optC (G_ref11_Same (a0.2.1, a1.2.1, ())) none fun d6 ↦
 bif !d6 then some false
 else
 bif (↑(List.length a0.2.2.1) : Int) != (↑(List.length a1.2.2.1) : Int) then some false
 else
 optC (G_ref12_Same (a0.2.2.2.1, a1.2.2.2.1, ())) none fun d7 ↦
 bif !d7 then some false
 else
 bif (↑(List.length a0.2.2.2.2) : Int) != (↑(List.length a1.2.2.2.2) : Int) then some false
 else
 optC
 (L_law13_same_32_0_0
 (0, a0.1.1, a0.1.2.1, a0.1.2.2.1, a0.1.2.2.2.1, a0.1.2.2.2.2.1, a0.1.2.2.2.2.2, a0.2.1.1, a0.2.1.2.1,
 a0.2.1.2.2.1, a0.2.1.2.2.2.1, a0.2.1.2.2.2.2.1, a0.2.1.2.2.2.2.2, a0.2.2.1, a0.2.2.2.1, a0.2.2.2.2,
 a1.1.1, a1.1.2.1, a1.1.2.2.1, a1.1.2.2.2.1, a1.1.2.2.2.2.1, a1.1.2.2.2.2.2, a1.2.1.1, a1.2.1.2.1,
 a1.2.1.2.2.1, a1.2.1.2.2.2.1, a1.2.1.2.2.2.2.1, a1.2.1.2.2.2.2.2, a1.2.2))
 none fun d8 ↦
 Sum.elim (fun e9 ↦ optC (L_law13_same_32_2_0 (0, e9)) none fun d10 ↦ Sum.elim (fun e11 ↦ some true) (fun e11 ↦ some e11) d10)
 (fun e9 ↦ some e9.1) d8
theorem raw_law13_same (a0 : O) (a1 : O) : evGX cx_law13_same keeps 8 32 ash_law13_same (.dat .bool) ((a0, a1, ()) : (O × (O × Unit))) = g_law13_same a0 a1 := by kernel_rfl
noncomputable def G_law13_same (x : (O × (O × Unit))) : Option Bool := g_law13_same x.1 x.2.1
noncomputable def con_law13_same : List AV → Prog AV := conP true ash_law13_same (.dat .bool) G_law13_same
theorem snd_law13_same : SoundA Try.prog 32 con_law13_same := conP_sound (cal_law13_same 32) true (by rfl) (by rfl) (fun x r e => (evGX_eq _ _ _ _ _ _ _).trans ((raw_law13_same x.1 x.2.1).trans e)) (.inl rfl)
end Go.Proofs.Ytbdcblpjemmipaa.Ex

namespace Go.Proofs.Ytbdcblpjemmipaa.Ex
set_option maxRecDepth 100000
set_option maxHeartbeats 2000000
set_option linter.unusedVariables false
set_option linter.unusedSimpArgs false
abbrev ty_128_0 : Type := (Bool × Bool × (List I) × (List I) × (List I) × Int × Int × Bool × (List I) × (List I) × (List I) × Int × Int × (List Int) × (List En) × (List Ac) × Bool × (List I) × (List I) × (List I) × Int × Int × Bool × (List I) × (List I) × (List I) × Int × Int × (List Int) × (List En) × (List Ac))
abbrev ty_128_1 : Type := (Int × Bool × (List I) × (List I) × (List I) × Int × Int × Bool × (List I) × (List I) × (List I) × Int × Int × (List Int) × (List En) × (List Ac) × Bool × (List I) × (List I) × (List I) × Int × Int × Bool × (List I) × (List I) × (List I) × Int × Int × (List Int) × (List En) × (List Ac))
abbrev ty_128_2 : Type := (Bool × (List I) × (List I) × (List I) × Int × Int × Bool × (List I) × (List I) × (List I) × Int × Int × (List Int) × (List En) × (List Ac) × Bool × (List I) × (List I) × (List I) × Int × Int × Bool × (List I) × (List I) × (List I) × Int × Int × (List Int) × (List En) × (List Ac))
noncomputable def bd_law13_same_32_0_0 (b0 : Bool) (b0_1 : (List I)) (b0_2 : (List I)) (b0_3 : (List I)) (b0_4 : Int) (b0_5 : Int) (b0_6 : Bool) (b0_7 : (List I)) (b0_8 : (List I)) (b0_9 : (List I)) (b0_10 : Int) (b0_11 : Int) (b0_13 : (List En)) (b0_14 : (List Ac)) (b1 : Bool) (b1_1 : (List I)) (b1_2 : (List I)) (b1_3 : (List I)) (b1_4 : Int) (b1_5 : Int) (b1_6 : Bool) (b1_7 : (List I)) (b1_8 : (List I)) (b1_9 : (List I)) (b1_10 : Int) (b1_11 : Int) (b1_12 : (List Int)) (b1_13 : (List En)) (b1_14 : (List Ac)) (b0_12 : (List Int)) (i : Nat)  (d : Int) : Option (Unit ⊕ (ty_128_2 ⊕ ty_128_0)) :=
  optC b1_12[i]? (none) fun d35 ↦
   bif d != d35 then
   some (Sum.inr (Sum.inr (false, b0, b0_1, b0_2, b0_3, b0_4, b0_5, b0_6, b0_7, b0_8, b0_9, b0_10, b0_11, b0_12, b0_13, b0_14, b1, b1_1, b1_2, b1_3, b1_4, b1_5, b1_6, b1_7, b1_8, b1_9, b1_10, b1_11, b1_12, b1_13, b1_14)))
 else some (Sum.inl ())
noncomputable def fn_law13_same_32_0_0 (b0 : Bool) (b0_1 : (List I)) (b0_2 : (List I)) (b0_3 : (List I)) (b0_4 : Int) (b0_5 : Int) (b0_6 : Bool) (b0_7 : (List I)) (b0_8 : (List I)) (b0_9 : (List I)) (b0_10 : Int) (b0_11 : Int) (b0_13 : (List En)) (b0_14 : (List Ac)) (b1 : Bool) (b1_1 : (List I)) (b1_2 : (List I)) (b1_3 : (List I)) (b1_4 : Int) (b1_5 : Int) (b1_6 : Bool) (b1_7 : (List I)) (b1_8 : (List I)) (b1_9 : (List I)) (b1_10 : Int) (b1_11 : Int) (b1_12 : (List Int)) (b1_13 : (List En)) (b1_14 : (List Ac)) (b0_12 : (List Int))  : Option (ty_128_2 ⊕ ty_128_0) :=
  some (Sum.inl (b0, b0_1, b0_2, b0_3, b0_4, b0_5, b0_6, b0_7, b0_8, b0_9, b0_10, b0_11, b0_12, b0_13, b0_14, b1, b1_1, b1_2, b1_3, b1_4, b1_5, b1_6, b1_7, b1_8, b1_9, b1_10, b1_11, b1_12, b1_13, b1_14))
noncomputable abbrev rx_law13_same_32_0_0 (b0 : Bool) (b0_1 : (List I)) (b0_2 : (List I)) (b0_3 : (List I)) (b0_4 : Int) (b0_5 : Int) (b0_6 : Bool) (b0_7 : (List I)) (b0_8 : (List I)) (b0_9 : (List I)) (b0_10 : Int) (b0_11 : Int) (b0_13 : (List En)) (b0_14 : (List Ac)) (b1 : Bool) (b1_1 : (List I)) (b1_2 : (List I)) (b1_3 : (List I)) (b1_4 : Int) (b1_5 : Int) (b1_6 : Bool) (b1_7 : (List I)) (b1_8 : (List I)) (b1_9 : (List I)) (b1_10 : Int) (b1_11 : Int) (b1_12 : (List Int)) (b1_13 : (List En)) (b1_14 : (List Ac)) (b0_12 : (List Int)) (i : Nat) (s : Unit) : ty_128_1 := ((i : Int), b0, b0_1, b0_2, b0_3, b0_4, b0_5, b0_6, b0_7, b0_8, b0_9, b0_10, b0_11, b0_12, b0_13, b0_14, b1, b1_1, b1_2, b1_3, b1_4, b1_5, b1_6, b1_7, b1_8, b1_9, b1_10, b1_11, b1_12, b1_13, b1_14)
noncomputable def rv_law13_same_32_0_0 (b0 : Bool) (b0_1 : (List I)) (b0_2 : (List I)) (b0_3 : (List I)) (b0_4 : Int) (b0_5 : Int) (b0_6 : Bool) (b0_7 : (List I)) (b0_8 : (List I)) (b0_9 : (List I)) (b0_10 : Int) (b0_11 : Int) (b0_13 : (List En)) (b0_14 : (List Ac)) (b1 : Bool) (b1_1 : (List I)) (b1_2 : (List I)) (b1_3 : (List I)) (b1_4 : Int) (b1_5 : Int) (b1_6 : Bool) (b1_7 : (List I)) (b1_8 : (List I)) (b1_9 : (List I)) (b1_10 : Int) (b1_11 : Int) (b1_12 : (List Int)) (b1_13 : (List En)) (b1_14 : (List Ac)) (b0_12 : (List Int)) (s : Unit) : Option (ty_128_2 ⊕ ty_128_0) := rangeO (fun i s d => bd_law13_same_32_0_0 b0 b0_1 b0_2 b0_3 b0_4 b0_5 b0_6 b0_7 b0_8 b0_9 b0_10 b0_11 b0_13 b0_14 b1 b1_1 b1_2 b1_3 b1_4 b1_5 b1_6 b1_7 b1_8 b1_9 b1_10 b1_11 b1_12 b1_13 b1_14 b0_12 i  d) (fun s => fn_law13_same_32_0_0 b0 b0_1 b0_2 b0_3 b0_4 b0_5 b0_6 b0_7 b0_8 b0_9 b0_10 b0_11 b0_13 b0_14 b1 b1_1 b1_2 b1_3 b1_4 b1_5 b1_6 b1_7 b1_8 b1_9 b1_10 b1_11 b1_12 b1_13 b1_14 b0_12 ) 0 b0_12 s
theorem rg_law13_same_32_0_0 (b0 : Bool) (b0_1 : (List I)) (b0_2 : (List I)) (b0_3 : (List I)) (b0_4 : Int) (b0_5 : Int) (b0_6 : Bool) (b0_7 : (List I)) (b0_8 : (List I)) (b0_9 : (List I)) (b0_10 : Int) (b0_11 : Int) (b0_13 : (List En)) (b0_14 : (List Ac)) (b1 : Bool) (b1_1 : (List I)) (b1_2 : (List I)) (b1_3 : (List I)) (b1_4 : Int) (b1_5 : Int) (b1_6 : Bool) (b1_7 : (List I)) (b1_8 : (List I)) (b1_9 : (List I)) (b1_10 : Int) (b1_11 : Int) (b1_12 : (List Int)) (b1_13 : (List En)) (b1_14 : (List Ac)) (b0_12 : (List Int)) (s : Unit) (hl : b0_12.length < 9223372036854775807) : L_law13_same_32_0_0 (0, b0, b0_1, b0_2, b0_3, b0_4, b0_5, b0_6, b0_7, b0_8, b0_9, b0_10, b0_11, b0_12, b0_13, b0_14, b1, b1_1, b1_2, b1_3, b1_4, b1_5, b1_6, b1_7, b1_8, b1_9, b1_10, b1_11, b1_12, b1_13, b1_14) = rv_law13_same_32_0_0 b0 b0_1 b0_2 b0_3 b0_4 b0_5 b0_6 b0_7 b0_8 b0_9 b0_10 b0_11 b0_13 b0_14 b1 b1_1 b1_2 b1_3 b1_4 b1_5 b1_6 b1_7 b1_8 b1_9 b1_10 b1_11 b1_12 b1_13 b1_14 b0_12 s := by
  unfold L_law13_same_32_0_0 rv_law13_same_32_0_0
  refine iterO_range0 b0_12 (rx_law13_same_32_0_0 b0 b0_1 b0_2 b0_3 b0_4 b0_5 b0_6 b0_7 b0_8 b0_9 b0_10 b0_11 b0_13 b0_14 b1 b1_1 b1_2 b1_3 b1_4 b1_5 b1_6 b1_7 b1_8 b1_9 b1_10 b1_11 b1_12 b1_13 b1_14 b0_12) _ _ ?_ ?_ s (by unfold FUEL; omega)
  · intro i s d hi hd
    have e1 : decide ((i : Int) < (b0_12.length : Int)) = true := decide_eq_true (by omega)
    have e2 : decide (0 ≤ (i : Int)) = true := decide_eq_true (by omega)
    have e3 : Int.toNat (i : Int) = i := Int.toNat_natCast i
    have e4 := wrap_next hi (Nat.le_of_lt hl)
    show st_law13_same_32_0_0 ((i : Int)) (b0) (b0_1) (b0_2) (b0_3) (b0_4) (b0_5) (b0_6) (b0_7) (b0_8) (b0_9) (b0_10) (b0_11) (b0_12) (b0_13) (b0_14) (b1) (b1_1) (b1_2) (b1_3) (b1_4) (b1_5) (b1_6) (b1_7) (b1_8) (b1_9) (b1_10) (b1_11) (b1_12) (b1_13) (b1_14) = upd _ (bd_law13_same_32_0_0 b0 b0_1 b0_2 b0_3 b0_4 b0_5 b0_6 b0_7 b0_8 b0_9 b0_10 b0_11 b0_13 b0_14 b1 b1_1 b1_2 b1_3 b1_4 b1_5 b1_6 b1_7 b1_8 b1_9 b1_10 b1_11 b1_12 b1_13 b1_14 b0_12 i  d)
    unfold st_law13_same_32_0_0 bd_law13_same_32_0_0
    simp only [e1, e2, e3, e4, hd, cond_true, cond_false, optC_some, upd_cond, upd_optC, upd_elim, upd_inl, upd_inr, upd_none]
  · intro s
    have e1 : decide ((b0_12.length : Int) < (b0_12.length : Int)) = false := decide_eq_false (by omega)
    show st_law13_same_32_0_0 ((b0_12.length : Int)) (b0) (b0_1) (b0_2) (b0_3) (b0_4) (b0_5) (b0_6) (b0_7) (b0_8) (b0_9) (b0_10) (b0_11) (b0_12) (b0_13) (b0_14) (b1) (b1_1) (b1_2) (b1_3) (b1_4) (b1_5) (b1_6) (b1_7) (b1_8) (b1_9) (b1_10) (b1_11) (b1_12) (b1_13) (b1_14) = _
    unfold st_law13_same_32_0_0 fn_law13_same_32_0_0
    rw [e1]
    rfl
noncomputable def bd_law13_same_32_2_0 (b0 : Bool) (b0_1 : (List I)) (b0_2 : (List I)) (b0_3 : (List I)) (b0_4 : Int) (b0_5 : Int) (b0_6 : Bool) (b0_7 : (List I)) (b0_8 : (List I)) (b0_9 : (List I)) (b0_10 : Int) (b0_11 : Int) (b0_12 : (List Int)) (b0_13 : (List En)) (b1 : Bool) (b1_1 : (List I)) (b1_2 : (List I)) (b1_3 : (List I)) (b1_4 : Int) (b1_5 : Int) (b1_6 : Bool) (b1_7 : (List I)) (b1_8 : (List I)) (b1_9 : (List I)) (b1_10 : Int) (b1_11 : Int) (b1_12 : (List Int)) (b1_13 : (List En)) (b1_14 : (List Ac)) (b0_14 : (List Ac)) (i : Nat)  (d : Ac) : Option (Unit ⊕ (Unit ⊕ Bool)) :=
  optC b1_14[i]? (none) fun d35 ↦
   bif !(d.1 == d35.1 && (d.2.1 == d35.2.1 && (d.2.2.1 == d35.2.2.1 && (d.2.2.2.1 == d35.2.2.2.1 && (d.2.2.2.2.1 == d35.2.2.2.2.1 && d.2.2.2.2.2 == d35.2.2.2.2.2))))) then
   some (Sum.inr (Sum.inr false))
 else some (Sum.inl ())
noncomputable def fn_law13_same_32_2_0 (b0 : Bool) (b0_1 : (List I)) (b0_2 : (List I)) (b0_3 : (List I)) (b0_4 : Int) (b0_5 : Int) (b0_6 : Bool) (b0_7 : (List I)) (b0_8 : (List I)) (b0_9 : (List I)) (b0_10 : Int) (b0_11 : Int) (b0_12 : (List Int)) (b0_13 : (List En)) (b1 : Bool) (b1_1 : (List I)) (b1_2 : (List I)) (b1_3 : (List I)) (b1_4 : Int) (b1_5 : Int) (b1_6 : Bool) (b1_7 : (List I)) (b1_8 : (List I)) (b1_9 : (List I)) (b1_10 : Int) (b1_11 : Int) (b1_12 : (List Int)) (b1_13 : (List En)) (b1_14 : (List Ac)) (b0_14 : (List Ac))  : Option (Unit ⊕ Bool) :=
  some (Sum.inl PUnit.unit)
noncomputable abbrev rx_law13_same_32_2_0 (b0 : Bool) (b0_1 : (List I)) (b0_2 : (List I)) (b0_3 : (List I)) (b0_4 : Int) (b0_5 : Int) (b0_6 : Bool) (b0_7 : (List I)) (b0_8 : (List I)) (b0_9 : (List I)) (b0_10 : Int) (b0_11 : Int) (b0_12 : (List Int)) (b0_13 : (List En)) (b1 : Bool) (b1_1 : (List I)) (b1_2 : (List I)) (b1_3 : (List I)) (b1_4 : Int) (b1_5 : Int) (b1_6 : Bool) (b1_7 : (List I)) (b1_8 : (List I)) (b1_9 : (List I)) (b1_10 : Int) (b1_11 : Int) (b1_12 : (List Int)) (b1_13 : (List En)) (b1_14 : (List Ac)) (b0_14 : (List Ac)) (i : Nat) (s : Unit) : ty_128_1 := ((i : Int), b0, b0_1, b0_2, b0_3, b0_4, b0_5, b0_6, b0_7, b0_8, b0_9, b0_10, b0_11, b0_12, b0_13, b0_14, b1, b1_1, b1_2, b1_3, b1_4, b1_5, b1_6, b1_7, b1_8, b1_9, b1_10, b1_11, b1_12, b1_13, b1_14)
noncomputable def rv_law13_same_32_2_0 (b0 : Bool) (b0_1 : (List I)) (b0_2 : (List I)) (b0_3 : (List I)) (b0_4 : Int) (b0_5 : Int) (b0_6 : Bool) (b0_7 : (List I)) (b0_8 : (List I)) (b0_9 : (List I)) (b0_10 : Int) (b0_11 : Int) (b0_12 : (List Int)) (b0_13 : (List En)) (b1 : Bool) (b1_1 : (List I)) (b1_2 : (List I)) (b1_3 : (List I)) (b1_4 : Int) (b1_5 : Int) (b1_6 : Bool) (b1_7 : (List I)) (b1_8 : (List I)) (b1_9 : (List I)) (b1_10 : Int) (b1_11 : Int) (b1_12 : (List Int)) (b1_13 : (List En)) (b1_14 : (List Ac)) (b0_14 : (List Ac)) (s : Unit) : Option (Unit ⊕ Bool) := rangeO (fun i s d => bd_law13_same_32_2_0 b0 b0_1 b0_2 b0_3 b0_4 b0_5 b0_6 b0_7 b0_8 b0_9 b0_10 b0_11 b0_12 b0_13 b1 b1_1 b1_2 b1_3 b1_4 b1_5 b1_6 b1_7 b1_8 b1_9 b1_10 b1_11 b1_12 b1_13 b1_14 b0_14 i  d) (fun s => fn_law13_same_32_2_0 b0 b0_1 b0_2 b0_3 b0_4 b0_5 b0_6 b0_7 b0_8 b0_9 b0_10 b0_11 b0_12 b0_13 b1 b1_1 b1_2 b1_3 b1_4 b1_5 b1_6 b1_7 b1_8 b1_9 b1_10 b1_11 b1_12 b1_13 b1_14 b0_14 ) 0 b0_14 s
theorem rg_law13_same_32_2_0 (b0 : Bool) (b0_1 : (List I)) (b0_2 : (List I)) (b0_3 : (List I)) (b0_4 : Int) (b0_5 : Int) (b0_6 : Bool) (b0_7 : (List I)) (b0_8 : (List I)) (b0_9 : (List I)) (b0_10 : Int) (b0_11 : Int) (b0_12 : (List Int)) (b0_13 : (List En)) (b1 : Bool) (b1_1 : (List I)) (b1_2 : (List I)) (b1_3 : (List I)) (b1_4 : Int) (b1_5 : Int) (b1_6 : Bool) (b1_7 : (List I)) (b1_8 : (List I)) (b1_9 : (List I)) (b1_10 : Int) (b1_11 : Int) (b1_12 : (List Int)) (b1_13 : (List En)) (b1_14 : (List Ac)) (b0_14 : (List Ac)) (s : Unit) (hl : b0_14.length < 9223372036854775807) : L_law13_same_32_2_0 (0, b0, b0_1, b0_2, b0_3, b0_4, b0_5, b0_6, b0_7, b0_8, b0_9, b0_10, b0_11, b0_12, b0_13, b0_14, b1, b1_1, b1_2, b1_3, b1_4, b1_5, b1_6, b1_7, b1_8, b1_9, b1_10, b1_11, b1_12, b1_13, b1_14) = rv_law13_same_32_2_0 b0 b0_1 b0_2 b0_3 b0_4 b0_5 b0_6 b0_7 b0_8 b0_9 b0_10 b0_11 b0_12 b0_13 b1 b1_1 b1_2 b1_3 b1_4 b1_5 b1_6 b1_7 b1_8 b1_9 b1_10 b1_11 b1_12 b1_13 b1_14 b0_14 s := by
  unfold L_law13_same_32_2_0 rv_law13_same_32_2_0
  refine iterO_range0 b0_14 (rx_law13_same_32_2_0 b0 b0_1 b0_2 b0_3 b0_4 b0_5 b0_6 b0_7 b0_8 b0_9 b0_10 b0_11 b0_12 b0_13 b1 b1_1 b1_2 b1_3 b1_4 b1_5 b1_6 b1_7 b1_8 b1_9 b1_10 b1_11 b1_12 b1_13 b1_14 b0_14) _ _ ?_ ?_ s (by unfold FUEL; omega)
  · intro i s d hi hd
    have e1 : decide ((i : Int) < (b0_14.length : Int)) = true := decide_eq_true (by omega)
    have e2 : decide (0 ≤ (i : Int)) = true := decide_eq_true (by omega)
    have e3 : Int.toNat (i : Int) = i := Int.toNat_natCast i
    have e4 := wrap_next hi (Nat.le_of_lt hl)
    show st_law13_same_32_2_0 ((i : Int)) (b0) (b0_1) (b0_2) (b0_3) (b0_4) (b0_5) (b0_6) (b0_7) (b0_8) (b0_9) (b0_10) (b0_11) (b0_12) (b0_13) (b0_14) (b1) (b1_1) (b1_2) (b1_3) (b1_4) (b1_5) (b1_6) (b1_7) (b1_8) (b1_9) (b1_10) (b1_11) (b1_12) (b1_13) (b1_14) = upd _ (bd_law13_same_32_2_0 b0 b0_1 b0_2 b0_3 b0_4 b0_5 b0_6 b0_7 b0_8 b0_9 b0_10 b0_11 b0_12 b0_13 b1 b1_1 b1_2 b1_3 b1_4 b1_5 b1_6 b1_7 b1_8 b1_9 b1_10 b1_11 b1_12 b1_13 b1_14 b0_14 i  d)
    unfold st_law13_same_32_2_0 bd_law13_same_32_2_0
    simp only [e1, e2, e3, e4, hd, cond_true, cond_false, optC_some, upd_cond, upd_optC, upd_elim, upd_inl, upd_inr, upd_none]
  · intro s
    have e1 : decide ((b0_14.length : Int) < (b0_14.length : Int)) = false := decide_eq_false (by omega)
    show st_law13_same_32_2_0 ((b0_14.length : Int)) (b0) (b0_1) (b0_2) (b0_3) (b0_4) (b0_5) (b0_6) (b0_7) (b0_8) (b0_9) (b0_10) (b0_11) (b0_12) (b0_13) (b0_14) (b1) (b1_1) (b1_2) (b1_3) (b1_4) (b1_5) (b1_6) (b1_7) (b1_8) (b1_9) (b1_10) (b1_11) (b1_12) (b1_13) (b1_14) = _
    unfold st_law13_same_32_2_0 fn_law13_same_32_2_0
    rw [e1]
    rfl
end Go.Proofs.Ytbdcblpjemmipaa.Ex

namespace Go.Proofs.Ytbdcblpjemmipaa.Ex
set_option maxRecDepth 100000
set_option maxHeartbeats 2000000
set_option linter.unusedVariables false
set_option linter.unusedSimpArgs false
noncomputable def bd_ref11_rows_99_0_0 (s1 : (List I)) (s0 : (List I)) (i : Nat)  (d : I) : Option (Unit ⊕ (Unit ⊕ Bool)) :=
  optC s1[i]? (none) fun d6 ↦
   bif !(d.1 == d6.1 && d.2 == d6.2) then
   some (Sum.inr (Sum.inr false))
 else some (Sum.inl ())
noncomputable def fn_ref11_rows_99_0_0 (s1 : (List I)) (s0 : (List I))  : Option (Unit ⊕ Bool) :=
  some (Sum.inl PUnit.unit)
noncomputable abbrev rx_ref11_rows_99_0_0 (s1 : (List I)) (s0 : (List I)) (i : Nat) (s : Unit) : ((List I) × (List I) × Int) := (s0, s1, (i : Int))
noncomputable def rv_ref11_rows_99_0_0 (s1 : (List I)) (s0 : (List I)) (s : Unit) : Option (Unit ⊕ Bool) := rangeO (fun i s d => bd_ref11_rows_99_0_0 s1 s0 i  d) (fun s => fn_ref11_rows_99_0_0 s1 s0 ) 0 s0 s
theorem rg_ref11_rows_99_0_0 (s1 : (List I)) (s0 : (List I)) (s : Unit) (hl : s0.length < 9223372036854775807) : L_ref11_rows_99_0_0 (s0, s1, 0) = rv_ref11_rows_99_0_0 s1 s0 s := by
  unfold L_ref11_rows_99_0_0 rv_ref11_rows_99_0_0
  refine iterO_range0 s0 (rx_ref11_rows_99_0_0 s1 s0) _ _ ?_ ?_ s (by unfold FUEL; omega)
  · intro i s d hi hd
    have e1 : decide ((i : Int) < (s0.length : Int)) = true := decide_eq_true (by omega)
    have e2 : decide (0 ≤ (i : Int)) = true := decide_eq_true (by omega)
    have e3 : Int.toNat (i : Int) = i := Int.toNat_natCast i
    have e4 := wrap_next hi (Nat.le_of_lt hl)
    show st_ref11_rows_99_0_0 (s0) (s1) ((i : Int)) = upd _ (bd_ref11_rows_99_0_0 s1 s0 i  d)
    unfold st_ref11_rows_99_0_0 bd_ref11_rows_99_0_0
    simp only [e1, e2, e3, e4, hd, cond_true, cond_false, optC_some, upd_cond, upd_optC, upd_elim, upd_inl, upd_inr, upd_none]
  · intro s
    have e1 : decide ((s0.length : Int) < (s0.length : Int)) = false := decide_eq_false (by omega)
    show st_ref11_rows_99_0_0 (s0) (s1) ((s0.length : Int)) = _
    unfold st_ref11_rows_99_0_0 fn_ref11_rows_99_0_0
    rw [e1]
    rfl
end Go.Proofs.Ytbdcblpjemmipaa.Ex

namespace Go.Proofs.Ytbdcblpjemmipaa.Ex
set_option maxRecDepth 100000
set_option maxHeartbeats 2000000
set_option linter.unusedVariables false
set_option linter.unusedSimpArgs false
noncomputable def bd_ref12_Same_25_0_0 (s1 : (List En)) (s0 : (List En)) (i : Nat)  (d : En) : Option (Unit ⊕ (Unit ⊕ Bool)) :=
  optC s1[i]? (none) fun d6 ↦
   bif !(d.1 == d6.1 && (d.2.1 == d6.2.1 && (d.2.2.1 == d6.2.2.1 && (d.2.2.2.1 == d6.2.2.2.1 && (d.2.2.2.2.1 == d6.2.2.2.2.1 && d.2.2.2.2.2 == d6.2.2.2.2.2))))) then
   some (Sum.inr (Sum.inr false))
 else some (Sum.inl ())
noncomputable def fn_ref12_Same_25_0_0 (s1 : (List En)) (s0 : (List En))  : Option (Unit ⊕ Bool) :=
  some (Sum.inl PUnit.unit)
noncomputable abbrev rx_ref12_Same_25_0_0 (s1 : (List En)) (s0 : (List En)) (i : Nat) (s : Unit) : ((List En) × (List En) × Int) := (s0, s1, (i : Int))
noncomputable def rv_ref12_Same_25_0_0 (s1 : (List En)) (s0 : (List En)) (s : Unit) : Option (Unit ⊕ Bool) := rangeO (fun i s d => bd_ref12_Same_25_0_0 s1 s0 i  d) (fun s => fn_ref12_Same_25_0_0 s1 s0 ) 0 s0 s
theorem rg_ref12_Same_25_0_0 (s1 : (List En)) (s0 : (List En)) (s : Unit) (hl : s0.length < 9223372036854775807) : L_ref12_Same_25_0_0 (s0, s1, 0) = rv_ref12_Same_25_0_0 s1 s0 s := by
  unfold L_ref12_Same_25_0_0 rv_ref12_Same_25_0_0
  refine iterO_range0 s0 (rx_ref12_Same_25_0_0 s1 s0) _ _ ?_ ?_ s (by unfold FUEL; omega)
  · intro i s d hi hd
    have e1 : decide ((i : Int) < (s0.length : Int)) = true := decide_eq_true (by omega)
    have e2 : decide (0 ≤ (i : Int)) = true := decide_eq_true (by omega)
    have e3 : Int.toNat (i : Int) = i := Int.toNat_natCast i
    have e4 := wrap_next hi (Nat.le_of_lt hl)
    show st_ref12_Same_25_0_0 (s0) (s1) ((i : Int)) = upd _ (bd_ref12_Same_25_0_0 s1 s0 i  d)
    unfold st_ref12_Same_25_0_0 bd_ref12_Same_25_0_0
    simp only [e1, e2, e3, e4, hd, cond_true, cond_false, optC_some, upd_cond, upd_optC, upd_elim, upd_inl, upd_inr, upd_none]
  · intro s
    have e1 : decide ((s0.length : Int) < (s0.length : Int)) = false := decide_eq_false (by omega)
    show st_ref12_Same_25_0_0 (s0) (s1) ((s0.length : Int)) = _
    unfold st_ref12_Same_25_0_0 fn_ref12_Same_25_0_0
    rw [e1]
    rfl
end Go.Proofs.Ytbdcblpjemmipaa.Ex

namespace Go.Proofs.Ytbdcblpjemmipaa.Ex
open Go.Proofs Go.Proofs.Ytbdcblpjemmipaa
set_option maxRecDepth 100000
set_option maxHeartbeats 2000000
set_option linter.unusedVariables false
set_option linter.unusedSimpArgs false
def ash_ref13_with : List Sh := [.dat tE, .dat (.int .i64), .dat tI]
noncomputable def sp_ref13_with : Nat → Option (List AV → Prog AV)
  | _ => none
theorem hsp_ref13_with : ∀ g p, sp_ref13_with g = some p → SoundA Try.prog g p := by
  intro g p h
  unfold sp_ref13_with at h
  split at h
  · cases h
noncomputable def cx_ref13_with : Ctx := { tab := tab, spec := sp_ref13_with, inl := inl, lps := fun _ _ => none, fuel := 40 }
theorem in_ref13_with : InlOk Try.prog cx_ref13_with := ⟨inl_ok, fun _ _ _ _ _ _ _ _ h => nomatch h⟩
theorem cal_ref13_with (g : Nat) : SoundA Try.prog g (evF cx_ref13_with keeps 8 g) := evF_sound (tabOk_of tab_ok) (cmpsOk_of tab_ok cmps_ok) mixed in_ref13_with hsp_ref13_with keeps 8 g
noncomputable def g_ref13_with (a0 : E) (a1 : Int) (a2 : I) : Option E :=
  bif decide (((List.length (α := I) []) + List.length a0.2.1 + 1) * 16 ≤ lim) then
 bif decide (0 ≤ a1) then
 optC ([] ++ a0.2.1)[a1.toNat]? none fun d4 ↦
 optC ([] ++ a0.2.1)[a1.toNat]? none fun d5 ↦
 some (a0.1, ([] ++ a0.2.1).set a1.toNat a2, a0.2.2.1, a0.2.2.2.1, a0.2.2.2.2.1, a0.2.2.2.2.2)
 else none
 else none
theorem raw_ref13_with (a0 : E) (a1 : Int) (a2 : I) : evGX cx_ref13_with keeps 8 72 ash_ref13_with (.dat tE) ((a0, a1, a2, ()) : (E × (Int × (I × Unit)))) = g_ref13_with a0 a1 a2 := by kernel_rfl
noncomputable def G_ref13_with (x : (E × (Int × (I × Unit)))) : Option E := g_ref13_with x.1 x.2.1 x.2.2.1
noncomputable def con_ref13_with : List AV → Prog AV := conP true ash_ref13_with (.dat tE) G_ref13_with
theorem snd_ref13_with : SoundA Try.prog 72 con_ref13_with := conP_sound (cal_ref13_with 72) true (by rfl) (by rfl) (fun x r e => (evGX_eq _ _ _ _ _ _ _).trans ((raw_ref13_with x.1 x.2.1 x.2.2.1).trans e)) (.inl rfl)
end Go.Proofs.Ytbdcblpjemmipaa.Ex

namespace Go.Proofs.Ytbdcblpjemmipaa.Ex
open Go.Proofs Go.Proofs.Ytbdcblpjemmipaa
set_option maxRecDepth 100000
set_option maxHeartbeats 2000000
set_option linter.unusedVariables false
set_option linter.unusedSimpArgs false
def ash_flow_Read : List Sh := [.dat tU, .dat (.int .i64), .dat tE, .dat (.sl tEn), .dat .bool, .dat (.int .i64)]
noncomputable def sp_flow_Read : Nat → Option (List AV → Prog AV)
  | 13 => some (con_tab_Seen)
  | 55 => some (con_itv_Join)
  | _ => none
theorem hsp_flow_Read : ∀ g p, sp_flow_Read g = some p → SoundA Try.prog g p := by
  intro g p h
  unfold sp_flow_Read at h
  split at h
  · cases h; exact snd_tab_Seen
  · cases h; exact snd_itv_Join
  · cases h
noncomputable def cx_flow_Read : Ctx := { tab := tab, spec := sp_flow_Read, inl := inl, lps := fun _ _ => none, fuel := 40 }
theorem in_flow_Read : InlOk Try.prog cx_flow_Read := ⟨inl_ok, fun _ _ _ _ _ _ _ _ h => nomatch h⟩
theorem cal_flow_Read (g : Nat) : SoundA Try.prog g (evF cx_flow_Read keeps 8 g) := evF_sound (tabOk_of tab_ok) (cmpsOk_of tab_ok cmps_ok) mixed in_flow_Read hsp_flow_Read keeps 8 g
noncomputable def g_flow_Read (a0 : U) (a1 : Int) (a2 : E) (a3 : (List En)) (a4 : Bool) (a5 : Int) : Option I :=
  bif a4 then
 bif decide (0 ≤ a5) then
 optC a2.2.2.2.1[a5.toNat]? none fun d7 ↦
 optC (G_tab_Seen (a3, a1, a4, a5, a2.2.2.2.2.1, ())) none fun d8 ↦ optC (G_itv_Join ([d7, d8], ())) none fun d9 ↦ some (d9.1, d9.2)
 else none
 else
 bif decide (0 ≤ a5) then
 optC a2.2.2.1[a5.toNat]? none fun d7 ↦
 optC (G_tab_Seen (a3, a1, a4, a5, a2.2.2.2.2.1, ())) none fun d8 ↦ optC (G_itv_Join ([d7, d8], ())) none fun d9 ↦ some (d9.1, d9.2)
 else none
theorem raw_flow_Read (a0 : U) (a1 : Int) (a2 : E) (a3 : (List En)) (a4 : Bool) (a5 : Int) : evGX cx_flow_Read keeps 8 35 ash_flow_Read (.dat tI) ((a0, a1, a2, a3, a4, a5, ()) : (U × (Int × (E × ((List En) × (Bool × (Int × Unit))))))) = g_flow_Read a0 a1 a2 a3 a4 a5 := by kernel_rfl
noncomputable def G_flow_Read (x : (U × (Int × (E × ((List En) × (Bool × (Int × Unit))))))) : Option I := g_flow_Read x.1 x.2.1 x.2.2.1 x.2.2.2.1 x.2.2.2.2.1 x.2.2.2.2.2.1
noncomputable def con_flow_Read : List AV → Prog AV := conP false ash_flow_Read (.dat tI) G_flow_Read
theorem snd_flow_Read : SoundA Try.prog 35 con_flow_Read := conP_sound (cal_flow_Read 35) false (by rfl) (by rfl) (fun x r e => (evGX_eq _ _ _ _ _ _ _).trans ((raw_flow_Read x.1 x.2.1 x.2.2.1 x.2.2.2.1 x.2.2.2.2.1 x.2.2.2.2.2.1).trans e)) (.inr fun _ => rfl)
end Go.Proofs.Ytbdcblpjemmipaa.Ex

namespace Go.Proofs.Ytbdcblpjemmipaa.Ex
open Go.Proofs Go.Proofs.Ytbdcblpjemmipaa
set_option maxRecDepth 100000
set_option maxHeartbeats 2000000
set_option linter.unusedVariables false
set_option linter.unusedSimpArgs false
def ash_ref13_Read : List Sh := [.dat (.int .i64), .dat tE, .dat (.sl tEn), .dat .bool, .dat (.int .i64)]
noncomputable def sp_ref13_Read : Nat → Option (List AV → Prog AV)
  | 28 => some (con_ref12_Seen)
  | 15 => some (con_ref2_Join)
  | _ => none
theorem hsp_ref13_Read : ∀ g p, sp_ref13_Read g = some p → SoundA Try.prog g p := by
  intro g p h
  unfold sp_ref13_Read at h
  split at h
  · cases h; exact snd_ref12_Seen
  · cases h; exact snd_ref2_Join
  · cases h
noncomputable def cx_ref13_Read : Ctx := { tab := tab, spec := sp_ref13_Read, inl := inl, lps := fun _ _ => none, fuel := 40 }
theorem in_ref13_Read : InlOk Try.prog cx_ref13_Read := ⟨inl_ok, fun _ _ _ _ _ _ _ _ h => nomatch h⟩
theorem cal_ref13_Read (g : Nat) : SoundA Try.prog g (evF cx_ref13_Read keeps 8 g) := evF_sound (tabOk_of tab_ok) (cmpsOk_of tab_ok cmps_ok) mixed in_ref13_Read hsp_ref13_Read keeps 8 g
noncomputable def g_ref13_Read (a0 : Int) (a1 : E) (a2 : (List En)) (a3 : Bool) (a4 : Int) : Option I :=
  optC (G_ref12_Seen (a2, a0, a3, a4, a1.2.2.2.2.1, ())) none fun d6 ↦
 bif a3 then
 bif decide (0 ≤ a4) then optC a1.2.2.2.1[a4.toNat]? none fun d7 ↦ optC (G_ref2_Join (d7, d6, ())) none fun d8 ↦ some (d8.1, d8.2)
 else none
 else
 bif decide (0 ≤ a4) then optC a1.2.2.1[a4.toNat]? none fun d7 ↦ optC (G_ref2_Join (d7, d6, ())) none fun d8 ↦ some (d8.1, d8.2)
 else none
theorem raw_ref13_Read (a0 : Int) (a1 : E) (a2 : (List En)) (a3 : Bool) (a4 : Int) : evGX cx_ref13_Read keeps 8 36 ash_ref13_Read (.dat tI) ((a0, a1, a2, a3, a4, ()) : (Int × (E × ((List En) × (Bool × (Int × Unit)))))) = g_ref13_Read a0 a1 a2 a3 a4 := by kernel_rfl
noncomputable def G_ref13_Read (x : (Int × (E × ((List En) × (Bool × (Int × Unit)))))) : Option I := g_ref13_Read x.1 x.2.1 x.2.2.1 x.2.2.2.1 x.2.2.2.2.1
noncomputable def con_ref13_Read : List AV → Prog AV := conP true ash_ref13_Read (.dat tI) G_ref13_Read
theorem snd_ref13_Read : SoundA Try.prog 36 con_ref13_Read := conP_sound (cal_ref13_Read 36) true (by rfl) (by rfl) (fun x r e => (evGX_eq _ _ _ _ _ _ _).trans ((raw_ref13_Read x.1 x.2.1 x.2.2.1 x.2.2.2.1 x.2.2.2.2.1).trans e)) (.inl rfl)
end Go.Proofs.Ytbdcblpjemmipaa.Ex

namespace Go.Proofs.Ytbdcblpjemmipaa.Ex
open Go.Proofs
set_option maxRecDepth 100000
set_option maxHeartbeats 2000000
set_option linter.unusedVariables false
set_option linter.unusedSimpArgs false
def upto {α : Type} (f : Nat → α → α) (k : Nat) (l : List α) : List α := l.mapIdx fun j d => if j < k then f j d else d
theorem upto_zero {α : Type} (f : Nat → α → α) (l : List α) : upto f 0 l = l := by
  apply List.ext_getElem?
  intro j
  simp [upto]
theorem upto_all {α : Type} (f : Nat → α → α) (l : List α) : upto f l.length l = l.mapIdx f := by
  apply List.ext_getElem?
  intro j
  simp only [upto, List.getElem?_mapIdx]
  cases h : l[j]? with
  | none => rfl
  | some d =>
    have := (List.getElem?_eq_some_iff.1 h).1
    simp [this]
theorem upto_get {α : Type} (f : Nat → α → α) {l : List α} {i : Nat} {d : α} (h : l[i]? = some d) : (upto f i l)[i]? = some d := by
  simp only [upto, List.getElem?_mapIdx, h]
  simp
theorem upto_set {α : Type} (f : Nat → α → α) {l : List α} {i : Nat} {d : α} (h : l[i]? = some d) : (upto f i l).set i (f i d) = upto f (i + 1) l := by
  apply List.ext_getElem?
  intro j
  have hi := (List.getElem?_eq_some_iff.1 h).1
  by_cases e : i = j
  · subst e
    rw [List.getElem?_set_self (by simp [upto]; exact hi)]
    simp only [upto, List.getElem?_mapIdx, h]
    simp
  · rw [List.getElem?_set_ne e]
    simp only [upto, List.getElem?_mapIdx]
    cases l[j]? with
    | none => rfl
    | some x =>
      by_cases k : j < i
      · simp [k, show j < i + 1 by omega]
      · simp [k, show ¬ j < i + 1 by omega]
theorem upto_len {α : Type} (f : Nat → α → α) (k : Nat) (l : List α) : (upto f k l).length = l.length := by simp [upto]
theorem iterO_map {X Y α : Type} {step : X → Option (X ⊕ Y)} (rx : Nat → List α → X) (f : Nat → α → α) (fin : List α → Y) (l : List α)
    (hs : ∀ i d r, l[i]? = some d → r.length = l.length → r[i]? = some d → step (rx i r) = some (.inl (rx (i + 1) (r.set i (f i d)))))
    (he : ∀ r, r.length = l.length → step (rx l.length r) = some (.inr (fin r))) (hl : l.length < 9223372036854775807) : iterO step FUEL (rx 0 l) = some (fin (l.mapIdx f)) := by
  have go : ∀ k i, i + k = l.length → iterO step (k + 1) (rx i (upto f i l)) = some (fin (l.mapIdx f)) := by
    intro k
    induction k with
    | zero =>
      intro i hi
      have : i = l.length := by omega
      subst this
      rw [iterO, he _ (upto_len _ _ _), upto_all]
    | succ k ih =>
      intro i hi
      obtain ⟨d, hd⟩ : ∃ d, l[i]? = some d := ⟨l[i]'(by omega), List.getElem?_eq_getElem _⟩
      rw [iterO, hs i d _ hd (upto_len _ _ _) (upto_get f hd), upto_set f hd]
      exact ih (i + 1) (by omega)
  have := go l.length 0 (by omega)
  rw [upto_zero] at this
  exact iterO_mono _ _ _ _ (by unfold FUEL; omega) this
theorem rangeO_id {α Y : Type} {f : Nat → Unit → α → Option (Unit ⊕ Y)} {fin : Unit → Option Y} : ∀ (l : List α) (i : Nat), (∀ j d, l[j]? = some d → f (i + j) () d = some (.inl ())) → rangeO f fin i l () = fin ()
  | [], _, _ => rfl
  | d :: r, i, h => by
    rw [rangeO_inl (by have := h 0 d rfl; rwa [Nat.add_zero] at this)]
    exact rangeO_id r (i + 1) fun j d hd => by rw [Nat.add_right_comm]; exact h (j + 1) d hd
theorem ne_self (n : Int) : (n != n) = false := by simp
theorem rows_refl (l : List I) (hl : l.length < 9223372036854775807) : g_ref11_rows l l = some true := by
  unfold g_ref11_rows
  rw [ne_self, rg_ref11_rows_99_0_0 l l () hl]
  unfold rv_ref11_rows_99_0_0
  rw [rangeO_id l 0 fun j d hd => ?_]
  · rfl
  · unfold bd_ref11_rows_99_0_0
    rw [Nat.zero_add, hd, optC_some]
    simp
theorem same12_refl (l : List En) (hl : l.length < 9223372036854775807) : g_ref12_Same l l = some true := by
  unfold g_ref12_Same
  rw [ne_self, rg_ref12_Same_25_0_0 l l () hl]
  unfold rv_ref12_Same_25_0_0
  rw [rangeO_id l 0 fun j d hd => ?_]
  · rfl
  · unfold bd_ref12_Same_25_0_0
    rw [Nat.zero_add, hd, optC_some]
    simp
def smallE (e : E) : Prop := e.2.1.length < 9223372036854775807 ∧ e.2.2.1.length < 9223372036854775807 ∧ e.2.2.2.1.length < 9223372036854775807
theorem same11_refl (e : E) (h : smallE e) : g_ref11_Same e e = some true := by
  unfold g_ref11_Same G_ref11_rows
  simp only [rows_refl _ h.1, rows_refl _ h.2.1, rows_refl _ h.2.2, optC_some, beq_self_eq_true, cond_true]
  cases e.1 <;> rfl
def smallO (o : O) : Prop := smallE o.1 ∧ smallE o.2.1 ∧ o.2.2.1.length < 9223372036854775807 ∧ o.2.2.2.1.length < 9223372036854775807 ∧ o.2.2.2.2.length < 9223372036854775807
theorem same_refl (o : O) (h : smallO o) : g_law13_same o o = some true := by
  unfold g_law13_same G_ref11_Same G_ref12_Same
  simp only [same11_refl _ h.1, same11_refl _ h.2.1, same12_refl _ h.2.2.2.1, optC_some, ne_self, Bool.not_true, cond_false]
  rw [rg_law13_same_32_0_0 _ _ _ _ _ _ _ _ _ _ _ _ _ _ _ _ _ _ _ _ _ _ _ _ _ _ _ _ _ _ () h.2.2.1]
  unfold rv_law13_same_32_0_0
  rw [rangeO_id _ 0 fun j d hd => ?_]
  · unfold fn_law13_same_32_0_0
    simp only [optC_some, Sum.elim_inl]
    rw [rg_law13_same_32_2_0 _ _ _ _ _ _ _ _ _ _ _ _ _ _ _ _ _ _ _ _ _ _ _ _ _ _ _ _ _ _ () h.2.2.2.2]
    unfold rv_law13_same_32_2_0
    rw [rangeO_id _ 0 fun j d hd => ?_]
    · rfl
    · unfold bd_law13_same_32_2_0
      rw [Nat.zero_add, hd, optC_some]
      simp
  · unfold bd_law13_same_32_0_0
    rw [Nat.zero_add, hd, optC_some]
    simp
theorem seen_is {p : En → Bool} : ∀ {l : List En} {v : I}, isB v = true → (∀ e ∈ l, entOK e) → isB (seenS p v l) = true
  | [], v, hv, _ => hv
  | e :: r, v, hv, h => by
    unfold seenS
    rw [List.foldl_cons]
    refine seen_is (l := r) ?_ fun x hx => h x (List.mem_cons_of_mem _ hx)
    have he := (h e (List.mem_cons_self ..)).v
    split
    · rw [join_eq he]; exact rjoin_is hv he
    · exact hv
theorem nn_is : isB nn = true := by decide
theorem seenV_is {l : List En} {t : Int} {ar : Bool} {g h : Int} (he : ∀ e ∈ l, entOK e) : isB (seenV l t ar g h) = true := seen_is nn_is he
theorem gainV_is {l : List En} {t : Int} {ar : Bool} {g h m : Int} (he : ∀ e ∈ l, entOK e) : isB (gainV l t ar g h m) = true := seen_is nn_is he
def readV (d : I) (l : List En) (t : Int) (ar : Bool) (g h : Int) : I := rJoin d (seenV l t ar g h)
theorem n_flow_Read (u : U) (t : Int) (e : E) (l : List En) (ar : Bool) (g : Int) (d : I) (hg : 0 ≤ g) (hd : (if ar then e.2.2.2.1 else e.2.2.1)[g.toNat]? = some d)
    (hh : 0 ≤ e.2.2.2.2.1 ∧ e.2.2.2.2.1 < 2147483648) (he : ∀ e ∈ l, entOK e) (hl : l.length < 9223372036854775807) : g_flow_Read u t e l ar g = some (readV d l t ar g e.2.2.2.2.1) := by
  unfold g_flow_Read G_tab_Seen G_itv_Join
  simp only [n_tab_Seen l t ar g _ hh he hl, optC_some, n_itv_Join2, cd_true hg, join_eq (seenV_is he)]
  cases ar <;> (simp only [Bool.false_eq_true, if_true, if_false] at hd; rw [hd]; rfl)
theorem n_ref13_Read (t : Int) (e : E) (l : List En) (ar : Bool) (g : Int) (d : I) (hg : 0 ≤ g) (hd : (if ar then e.2.2.2.1 else e.2.2.1)[g.toNat]? = some d)
    (hh : 0 ≤ e.2.2.2.2.1 ∧ e.2.2.2.2.1 < 2147483648) (he : ∀ e ∈ l, entOK e) (hl : l.length < 9223372036854775807) : g_ref13_Read t e l ar g = some (readV d l t ar g e.2.2.2.2.1) := by
  unfold g_ref13_Read G_ref12_Seen G_ref2_Join
  simp only [n_ref12_Seen l t ar g _ hh he hl, optC_some, n_ref2_Join, cd_true hg]
  cases ar <;> (simp only [Bool.false_eq_true, if_true, if_false] at hd; rw [hd]; rfl)
theorem n_ref13_with (e : E) (T : Int) (v : I) (h0 : 0 ≤ T) (h1 : T < (e.2.1.length : Int)) (h2 : e.2.1.length ≤ 1000) : g_ref13_with e T v = some (e.1, e.2.1.set T.toNat v, e.2.2) := by
  unfold g_ref13_with
  obtain ⟨d, hd⟩ : ∃ d, e.2.1[T.toNat]? = some d := ⟨e.2.1[T.toNat]'(by omega), List.getElem?_eq_getElem _⟩
  simp only [List.nil_append, List.length_nil, Nat.zero_add]
  rw [cd_true (by unfold lim; omega), cd_true h0, hd]
  rfl
end Go.Proofs.Ytbdcblpjemmipaa.Ex

namespace Go.Proofs.Ytbdcblpjemmipaa.Ex
open Go.Proofs Go.Proofs.Ytbdcblpjemmipaa
noncomputable def cx_slices_Clone_Itv : Ctx := { tab := tab, spec := fun _ => none, inl := inl, lps := fun _ _ => none, fuel := 40 }
noncomputable def con_slices_Clone_Itv : List AV → Prog AV := cloneP 16 tI
theorem snd_slices_Clone_Itv : SoundA Try.prog 131 con_slices_Clone_Itv :=
  clone_sound (cx := cx_slices_Clone_Itv) (cal := fun _ _ => .fail) (i := ⟨(.sl (.st (.pair (.int .i64) (.int .i64)))), 24, 25, [], false⟩) (ie := ⟨(.st (.pair (.int .i64) (.int .i64))), 16, 0, [(0, 1), (1, 1)], true⟩) (tabOk_of tab_ok) Try.func131 (inl_ok 131 Try.f131 rfl).2 (t := 49) (tb := 4) (s0 := "slices.go:355") (s1 := "slices.go:357") (s2 := "slices.go:358") (s3 := "slices.go:362") (by kernel_rfl) (by kernel_rfl) (by kernel_rfl) rfl rfl rfl rfl
end Go.Proofs.Ytbdcblpjemmipaa.Ex

namespace Go.Proofs.Ytbdcblpjemmipaa.Ex
open Go.Proofs Go.Proofs.Ytbdcblpjemmipaa
set_option maxRecDepth 100000
set_option maxHeartbeats 2000000
set_option linter.unusedVariables false
set_option linter.unusedSimpArgs false
abbrev ty_136_0 : Type := (((Int × (Int × (Int × (Int × (Int × (Int × (Int × (Int × (Int × ((List Int) × ((List Int) × (Int × ((List C) × (Int × (Int × (Bool × ((List I) × ((List I) × ((List I) × (Int × (Int × ((List En) × (Bool × ((List I) × ((List I) × ((List I) × (Int × (Int × (Bool × ((List I) × ((List I) × ((List I) × (Int × (Int × ((List Int) × ((List En) × ((List Ac) × Unit))))))))))))))))))))))))))))))))))))) × (Unit × (Bool × (Unit × (Int × (Int × Unit)))))) × ((List I) × Unit))
abbrev ty_136_1 : Type := ((Int × (Int × (Int × (Int × (Int × (Int × (Int × (Int × (Int × ((List Int) × ((List Int) × (Int × ((List C) × (Int × (Int × (Bool × ((List I) × ((List I) × ((List I) × (Int × (Int × ((List En) × (Bool × ((List I) × ((List I) × ((List I) × (Int × (Int × (Bool × ((List I) × ((List I) × ((List I) × (Int × (Int × ((List Int) × ((List En) × ((List Ac) × Unit))))))))))))))))))))))))))))))))))))) × ((List I) × (Bool × Unit)))
abbrev ty_136_2 : Type := (Int × Int × Int × Int × Int × Int × Int × Int × Int × (List Int) × (List Int) × Int × (List C) × Int × Int × Bool × (List I) × (List I) × (List I) × Int × Int × (List En) × Bool × (List I) × (List I) × (List I) × Int × Int × Bool × (List I) × (List I) × (List I) × Int × Int × (List Int) × (List En) × (List Ac) × Bool × Int × Int × (List I))
abbrev fn_136_0 := (fun (d : ty_136_0) => ((d.1.1.1, d.1.1.2.1, d.1.1.2.2.1, d.1.1.2.2.2.1, d.1.1.2.2.2.2.1, d.1.1.2.2.2.2.2.1, d.1.1.2.2.2.2.2.2.1, d.1.1.2.2.2.2.2.2.2.1, d.1.1.2.2.2.2.2.2.2.2.1, d.1.1.2.2.2.2.2.2.2.2.2.1, d.1.1.2.2.2.2.2.2.2.2.2.2.1, d.1.1.2.2.2.2.2.2.2.2.2.2.2.1, d.1.1.2.2.2.2.2.2.2.2.2.2.2.2.1, d.1.1.2.2.2.2.2.2.2.2.2.2.2.2.2.1, d.1.1.2.2.2.2.2.2.2.2.2.2.2.2.2.2.1, d.1.1.2.2.2.2.2.2.2.2.2.2.2.2.2.2.2.1, d.1.1.2.2.2.2.2.2.2.2.2.2.2.2.2.2.2.2.1, d.1.1.2.2.2.2.2.2.2.2.2.2.2.2.2.2.2.2.2.1, d.1.1.2.2.2.2.2.2.2.2.2.2.2.2.2.2.2.2.2.2.1, d.1.1.2.2.2.2.2.2.2.2.2.2.2.2.2.2.2.2.2.2.2.1, d.1.1.2.2.2.2.2.2.2.2.2.2.2.2.2.2.2.2.2.2.2.2.1, d.1.1.2.2.2.2.2.2.2.2.2.2.2.2.2.2.2.2.2.2.2.2.2.1, d.1.1.2.2.2.2.2.2.2.2.2.2.2.2.2.2.2.2.2.2.2.2.2.2.1, d.1.1.2.2.2.2.2.2.2.2.2.2.2.2.2.2.2.2.2.2.2.2.2.2.2.1, d.1.1.2.2.2.2.2.2.2.2.2.2.2.2.2.2.2.2.2.2.2.2.2.2.2.2.1, d.1.1.2.2.2.2.2.2.2.2.2.2.2.2.2.2.2.2.2.2.2.2.2.2.2.2.2.1, d.1.1.2.2.2.2.2.2.2.2.2.2.2.2.2.2.2.2.2.2.2.2.2.2.2.2.2.2.1, d.1.1.2.2.2.2.2.2.2.2.2.2.2.2.2.2.2.2.2.2.2.2.2.2.2.2.2.2.2.1, d.1.1.2.2.2.2.2.2.2.2.2.2.2.2.2.2.2.2.2.2.2.2.2.2.2.2.2.2.2.2.1, d.1.1.2.2.2.2.2.2.2.2.2.2.2.2.2.2.2.2.2.2.2.2.2.2.2.2.2.2.2.2.2.1, d.1.1.2.2.2.2.2.2.2.2.2.2.2.2.2.2.2.2.2.2.2.2.2.2.2.2.2.2.2.2.2.2.1, d.1.1.2.2.2.2.2.2.2.2.2.2.2.2.2.2.2.2.2.2.2.2.2.2.2.2.2.2.2.2.2.2.2.1, d.1.1.2.2.2.2.2.2.2.2.2.2.2.2.2.2.2.2.2.2.2.2.2.2.2.2.2.2.2.2.2.2.2.2.1, d.1.1.2.2.2.2.2.2.2.2.2.2.2.2.2.2.2.2.2.2.2.2.2.2.2.2.2.2.2.2.2.2.2.2.2.1, d.1.1.2.2.2.2.2.2.2.2.2.2.2.2.2.2.2.2.2.2.2.2.2.2.2.2.2.2.2.2.2.2.2.2.2.2.1, d.1.1.2.2.2.2.2.2.2.2.2.2.2.2.2.2.2.2.2.2.2.2.2.2.2.2.2.2.2.2.2.2.2.2.2.2.2.1, d.1.1.2.2.2.2.2.2.2.2.2.2.2.2.2.2.2.2.2.2.2.2.2.2.2.2.2.2.2.2.2.2.2.2.2.2.2.2.1, d.1.2.2.1, d.1.2.2.2.2.1, d.1.2.2.2.2.2.1, d.2.1) : ty_136_2))
abbrev fn_136_1 := (fun (x : (List I)) => ((((), ()), (x, ())) : ((Unit × Unit) × ((List I) × Unit))))
def ash_flow_deed_gains : List Sh := [.view [.int .i64, .int .i64, .int .i64, .int .i64, .int .i64, .int .i64, .int .i64, .int .i64, .int .i64, .sln (.int .i64), .sln (.int .i64), .int .i64, .sln tC, .int .i64, .int .i64, .bool, .sln tI, .sln tI, .sln tI, .int .i64, .int .i64, .sln tEn, .bool, .sln tI, .sln tI, .sln tI, .int .i64, .int .i64, .bool, .sln tI, .sln tI, .sln tI, .int .i64, .int .i64, .sln (.int .i64), .sln tEn, .sln tAc] 0, .dat (.sl tI), .dat .bool]
def kp_flow_deed_gains_133_0 : Nat → List Nat := fun c => bif c.beq 0 then [0, 1, 2, 11, 12, 13] else [1]
noncomputable def sp_flow_deed_gains : Nat → Option (List AV → Prog AV)
  | 131 => some (con_slices_Clone_Itv)
  | 14 => some (con_tab_Gained)
  | 55 => some (con_itv_Join)
  | _ => none
theorem hsp_flow_deed_gains : ∀ g p, sp_flow_deed_gains g = some p → SoundA Try.prog g p := by
  intro g p h
  unfold sp_flow_deed_gains at h
  split at h
  · cases h; exact snd_slices_Clone_Itv
  · cases h; exact snd_tab_Gained
  · cases h; exact snd_itv_Join
  · cases h
noncomputable def cx_flow_deed_gains0 : Ctx := { tab := tab, spec := sp_flow_deed_gains, inl := inl, lps := fun _ _ => none, fuel := 40 }
theorem in_flow_deed_gains0 : InlOk Try.prog cx_flow_deed_gains0 := ⟨inl_ok, fun _ _ _ _ _ _ _ _ h => nomatch h⟩
theorem cal_flow_deed_gains0 (g : Nat) : SoundA Try.prog g (evF cx_flow_deed_gains0 keeps 8 g) := evF_sound (tabOk_of tab_ok) (cmpsOk_of tab_ok cmps_ok) mixed in_flow_deed_gains0 hsp_flow_deed_gains keeps 8 g
noncomputable def F_flow_deed_gains_133_0 (base : Nat) : Tm → Prog (Nat × Tm) := evC cx_flow_deed_gains0 (evF cx_flow_deed_gains0 keeps 8) ⟨133, 47, keeps 133, base⟩ 0 (bodyX 133 0)
def s_flow_deed_gains_133_0_0 : StS := ⟨[(0, .view [.int .i64, .int .i64, .int .i64, .int .i64, .int .i64, .int .i64, .int .i64, .int .i64, .int .i64, .sl (.int .i64), .sl (.int .i64), .int .i64, .sl tC, .int .i64, .int .i64, .bool, .sl tI, .sl tI, .sl tI, .int .i64, .int .i64, .sl tEn, .bool, .sl tI, .sl tI, .sl tI, .int .i64, .int .i64, .bool, .sl tI, .sl tI, .sl tI, .int .i64, .int .i64, .sl (.int .i64), .sl tEn, .sl tAc] 0), (1, .row 0), (2, .bool), (11, .row 0), (12, .int .i64), (13, .int .i64)], [(0, .row tI)], 1⟩
def x_flow_deed_gains_133_0_0_0 : StS := ⟨[(1, .row 0)], [(0, .row tI)], 1⟩
noncomputable def st_flow_deed_gains_133_0_0 (s0 : Int) (s0_1 : Int) (s0_2 : Int) (s0_3 : Int) (s0_4 : Int) (s0_5 : Int) (s0_6 : Int) (s0_7 : Int) (s0_8 : Int) (s0_9 : (List Int)) (s0_10 : (List Int)) (s0_11 : Int) (s0_12 : (List C)) (s0_13 : Int) (s0_14 : Int) (s0_15 : Bool) (s0_16 : (List I)) (s0_17 : (List I)) (s0_18 : (List I)) (s0_19 : Int) (s0_20 : Int) (s0_21 : (List En)) (s0_22 : Bool) (s0_23 : (List I)) (s0_24 : (List I)) (s0_25 : (List I)) (s0_26 : Int) (s0_27 : Int) (s0_28 : Bool) (s0_29 : (List I)) (s0_30 : (List I)) (s0_31 : (List I)) (s0_32 : Int) (s0_33 : Int) (s0_34 : (List Int)) (s0_35 : (List En)) (s0_36 : (List Ac)) (s2 : Bool) (s12 : Int) (s13 : Int) (b0 : (List I)) : Option (ty_136_2 ⊕ (List I)) :=
  bif decide (s13 < s12) then
 bif decide (0 ≤ s13) then
 optC b0[s13.toNat]? none fun d43 ↦
 optC b0[s13.toNat]? none fun d44 ↦
 optC (G_tab_Gained (s0_21, s0_13, s2, s13, s0_19, s0_4, ())) none fun d45 ↦
 optC (G_itv_Join ([d44, d45], ())) none fun d46 ↦
 bif decide (0 ≤ s13) then
 optC b0[s13.toNat]? none fun d47 ↦
 optC b0[s13.toNat]? none fun d48 ↦
 some
 (Sum.inl
 (s0, s0_1, s0_2, s0_3, s0_4, s0_5, s0_6, s0_7, s0_8, s0_9, s0_10, s0_11, s0_12, s0_13, s0_14, s0_15, s0_16, s0_17, s0_18, s0_19, s0_20, s0_21, s0_22, s0_23, s0_24, s0_25, s0_26,
 s0_27, s0_28, s0_29, s0_30, s0_31, s0_32, s0_33, s0_34, s0_35, s0_36, s2, s12, Go.IntKind.i64.wrap (s13 + 1), b0.set s13.toNat d46))
 else none
 else none
 else some (Sum.inr b0)
theorem rn_flow_deed_gains_133_0_0 (s0 : Int) (s0_1 : Int) (s0_2 : Int) (s0_3 : Int) (s0_4 : Int) (s0_5 : Int) (s0_6 : Int) (s0_7 : Int) (s0_8 : Int) (s0_9 : (List Int)) (s0_10 : (List Int)) (s0_11 : Int) (s0_12 : (List C)) (s0_13 : Int) (s0_14 : Int) (s0_15 : Bool) (s0_16 : (List I)) (s0_17 : (List I)) (s0_18 : (List I)) (s0_19 : Int) (s0_20 : Int) (s0_21 : (List En)) (s0_22 : Bool) (s0_23 : (List I)) (s0_24 : (List I)) (s0_25 : (List I)) (s0_26 : Int) (s0_27 : Int) (s0_28 : Bool) (s0_29 : (List I)) (s0_30 : (List I)) (s0_31 : (List I)) (s0_32 : Int) (s0_33 : Int) (s0_34 : (List Int)) (s0_35 : (List En)) (s0_36 : (List Ac)) (s2 : Bool) (s12 : Int) (s13 : Int) (b0 : (List I)) : rdX cx_flow_deed_gains0 keeps 8 ⟨133, 47, keeps 133, 0⟩ 0 (bodyX 133 0) 0 kp_flow_deed_gains_133_0 (sT s_flow_deed_gains_133_0_0 (((s0, s0_1, s0_2, s0_3, s0_4, s0_5, s0_6, s0_7, s0_8, s0_9, s0_10, s0_11, s0_12, s0_13, s0_14, s0_15, s0_16, s0_17, s0_18, s0_19, s0_20, s0_21, s0_22, s0_23, s0_24, s0_25, s0_26, s0_27, s0_28, s0_29, s0_30, s0_31, s0_32, s0_33, s0_34, s0_35, s0_36, ()), (), s2, (), s12, s13, ()), (b0, ()))) (sH s_flow_deed_gains_133_0_0 (((s0, s0_1, s0_2, s0_3, s0_4, s0_5, s0_6, s0_7, s0_8, s0_9, s0_10, s0_11, s0_12, s0_13, s0_14, s0_15, s0_16, s0_17, s0_18, s0_19, s0_20, s0_21, s0_22, s0_23, s0_24, s0_25, s0_26, s0_27, s0_28, s0_29, s0_30, s0_31, s0_32, s0_33, s0_34, s0_35, s0_36, ()), (), s2, (), s12, s13, ()), (b0, ()))) (rdO (fun T h => (rdS s_flow_deed_gains_133_0_0 T h).map fn_136_0) (getE 2 x_flow_deed_gains_133_0_0_0 (fun (d : ((Unit × Unit) × ((List I) × Unit))) => ((d.2.1) : (List I))))) = st_flow_deed_gains_133_0_0 s0 s0_1 s0_2 s0_3 s0_4 s0_5 s0_6 s0_7 s0_8 s0_9 s0_10 s0_11 s0_12 s0_13 s0_14 s0_15 s0_16 s0_17 s0_18 s0_19 s0_20 s0_21 s0_22 s0_23 s0_24 s0_25 s0_26 s0_27 s0_28 s0_29 s0_30 s0_31 s0_32 s0_33 s0_34 s0_35 s0_36 s2 s12 s13 b0 := by kernel_rfl
noncomputable def L_flow_deed_gains_133_0_0 (x : ty_136_2) : Option (List I) := iterO (fun x => st_flow_deed_gains_133_0_0 x.1 x.2.1 x.2.2.1 x.2.2.2.1 x.2.2.2.2.1 x.2.2.2.2.2.1 x.2.2.2.2.2.2.1 x.2.2.2.2.2.2.2.1 x.2.2.2.2.2.2.2.2.1 x.2.2.2.2.2.2.2.2.2.1 x.2.2.2.2.2.2.2.2.2.2.1 x.2.2.2.2.2.2.2.2.2.2.2.1 x.2.2.2.2.2.2.2.2.2.2.2.2.1 x.2.2.2.2.2.2.2.2.2.2.2.2.2.1 x.2.2.2.2.2.2.2.2.2.2.2.2.2.2.1 x.2.2.2.2.2.2.2.2.2.2.2.2.2.2.2.1 x.2.2.2.2.2.2.2.2.2.2.2.2.2.2.2.2.1 x.2.2.2.2.2.2.2.2.2.2.2.2.2.2.2.2.2.1 x.2.2.2.2.2.2.2.2.2.2.2.2.2.2.2.2.2.2.1 x.2.2.2.2.2.2.2.2.2.2.2.2.2.2.2.2.2.2.2.1 x.2.2.2.2.2.2.2.2.2.2.2.2.2.2.2.2.2.2.2.2.1 x.2.2.2.2.2.2.2.2.2.2.2.2.2.2.2.2.2.2.2.2.2.1 x.2.2.2.2.2.2.2.2.2.2.2.2.2.2.2.2.2.2.2.2.2.2.1 x.2.2.2.2.2.2.2.2.2.2.2.2.2.2.2.2.2.2.2.2.2.2.2.1 x.2.2.2.2.2.2.2.2.2.2.2.2.2.2.2.2.2.2.2.2.2.2.2.2.1 x.2.2.2.2.2.2.2.2.2.2.2.2.2.2.2.2.2.2.2.2.2.2.2.2.2.1 x.2.2.2.2.2.2.2.2.2.2.2.2.2.2.2.2.2.2.2.2.2.2.2.2.2.2.1 x.2.2.2.2.2.2.2.2.2.2.2.2.2.2.2.2.2.2.2.2.2.2.2.2.2.2.2.1 x.2.2.2.2.2.2.2.2.2.2.2.2.2.2.2.2.2.2.2.2.2.2.2.2.2.2.2.2.1 x.2.2.2.2.2.2.2.2.2.2.2.2.2.2.2.2.2.2.2.2.2.2.2.2.2.2.2.2.2.1 x.2.2.2.2.2.2.2.2.2.2.2.2.2.2.2.2.2.2.2.2.2.2.2.2.2.2.2.2.2.2.1 x.2.2.2.2.2.2.2.2.2.2.2.2.2.2.2.2.2.2.2.2.2.2.2.2.2.2.2.2.2.2.2.1 x.2.2.2.2.2.2.2.2.2.2.2.2.2.2.2.2.2.2.2.2.2.2.2.2.2.2.2.2.2.2.2.2.1 x.2.2.2.2.2.2.2.2.2.2.2.2.2.2.2.2.2.2.2.2.2.2.2.2.2.2.2.2.2.2.2.2.2.1 x.2.2.2.2.2.2.2.2.2.2.2.2.2.2.2.2.2.2.2.2.2.2.2.2.2.2.2.2.2.2.2.2.2.2.1 x.2.2.2.2.2.2.2.2.2.2.2.2.2.2.2.2.2.2.2.2.2.2.2.2.2.2.2.2.2.2.2.2.2.2.2.1 x.2.2.2.2.2.2.2.2.2.2.2.2.2.2.2.2.2.2.2.2.2.2.2.2.2.2.2.2.2.2.2.2.2.2.2.2.1 x.2.2.2.2.2.2.2.2.2.2.2.2.2.2.2.2.2.2.2.2.2.2.2.2.2.2.2.2.2.2.2.2.2.2.2.2.2.1 x.2.2.2.2.2.2.2.2.2.2.2.2.2.2.2.2.2.2.2.2.2.2.2.2.2.2.2.2.2.2.2.2.2.2.2.2.2.2.1 x.2.2.2.2.2.2.2.2.2.2.2.2.2.2.2.2.2.2.2.2.2.2.2.2.2.2.2.2.2.2.2.2.2.2.2.2.2.2.2.1 x.2.2.2.2.2.2.2.2.2.2.2.2.2.2.2.2.2.2.2.2.2.2.2.2.2.2.2.2.2.2.2.2.2.2.2.2.2.2.2.2) FUEL x
noncomputable def q_flow_deed_gains_133_0 : Nat → Tm → Prog (Nat × Tm) := (varP 0 (fun T h => (rdS s_flow_deed_gains_133_0_0 T h).map fn_136_0) L_flow_deed_gains_133_0_0 (altE 2 x_flow_deed_gains_133_0_0_0 fn_136_1) (fun _ _ => .fail))
theorem ok_flow_deed_gains_133_0 : VarOk kp_flow_deed_gains_133_0 F_flow_deed_gains_133_0 q_flow_deed_gains_133_0 := (varX_ok (s := s_flow_deed_gains_133_0_0) (un := (fun (x : ty_136_2) => ((((x.1, x.2.1, x.2.2.1, x.2.2.2.1, x.2.2.2.2.1, x.2.2.2.2.2.1, x.2.2.2.2.2.2.1, x.2.2.2.2.2.2.2.1, x.2.2.2.2.2.2.2.2.1, x.2.2.2.2.2.2.2.2.2.1, x.2.2.2.2.2.2.2.2.2.2.1, x.2.2.2.2.2.2.2.2.2.2.2.1, x.2.2.2.2.2.2.2.2.2.2.2.2.1, x.2.2.2.2.2.2.2.2.2.2.2.2.2.1, x.2.2.2.2.2.2.2.2.2.2.2.2.2.2.1, x.2.2.2.2.2.2.2.2.2.2.2.2.2.2.2.1, x.2.2.2.2.2.2.2.2.2.2.2.2.2.2.2.2.1, x.2.2.2.2.2.2.2.2.2.2.2.2.2.2.2.2.2.1, x.2.2.2.2.2.2.2.2.2.2.2.2.2.2.2.2.2.2.1, x.2.2.2.2.2.2.2.2.2.2.2.2.2.2.2.2.2.2.2.1, x.2.2.2.2.2.2.2.2.2.2.2.2.2.2.2.2.2.2.2.2.1, x.2.2.2.2.2.2.2.2.2.2.2.2.2.2.2.2.2.2.2.2.2.1, x.2.2.2.2.2.2.2.2.2.2.2.2.2.2.2.2.2.2.2.2.2.2.1, x.2.2.2.2.2.2.2.2.2.2.2.2.2.2.2.2.2.2.2.2.2.2.2.1, x.2.2.2.2.2.2.2.2.2.2.2.2.2.2.2.2.2.2.2.2.2.2.2.2.1, x.2.2.2.2.2.2.2.2.2.2.2.2.2.2.2.2.2.2.2.2.2.2.2.2.2.1, x.2.2.2.2.2.2.2.2.2.2.2.2.2.2.2.2.2.2.2.2.2.2.2.2.2.2.1, x.2.2.2.2.2.2.2.2.2.2.2.2.2.2.2.2.2.2.2.2.2.2.2.2.2.2.2.1, x.2.2.2.2.2.2.2.2.2.2.2.2.2.2.2.2.2.2.2.2.2.2.2.2.2.2.2.2.1, x.2.2.2.2.2.2.2.2.2.2.2.2.2.2.2.2.2.2.2.2.2.2.2.2.2.2.2.2.2.1, x.2.2.2.2.2.2.2.2.2.2.2.2.2.2.2.2.2.2.2.2.2.2.2.2.2.2.2.2.2.2.1, x.2.2.2.2.2.2.2.2.2.2.2.2.2.2.2.2.2.2.2.2.2.2.2.2.2.2.2.2.2.2.2.1, x.2.2.2.2.2.2.2.2.2.2.2.2.2.2.2.2.2.2.2.2.2.2.2.2.2.2.2.2.2.2.2.2.1, x.2.2.2.2.2.2.2.2.2.2.2.2.2.2.2.2.2.2.2.2.2.2.2.2.2.2.2.2.2.2.2.2.2.1, x.2.2.2.2.2.2.2.2.2.2.2.2.2.2.2.2.2.2.2.2.2.2.2.2.2.2.2.2.2.2.2.2.2.2.1, x.2.2.2.2.2.2.2.2.2.2.2.2.2.2.2.2.2.2.2.2.2.2.2.2.2.2.2.2.2.2.2.2.2.2.2.1, x.2.2.2.2.2.2.2.2.2.2.2.2.2.2.2.2.2.2.2.2.2.2.2.2.2.2.2.2.2.2.2.2.2.2.2.2.1, ()), (), x.2.2.2.2.2.2.2.2.2.2.2.2.2.2.2.2.2.2.2.2.2.2.2.2.2.2.2.2.2.2.2.2.2.2.2.2.2.1, (), x.2.2.2.2.2.2.2.2.2.2.2.2.2.2.2.2.2.2.2.2.2.2.2.2.2.2.2.2.2.2.2.2.2.2.2.2.2.2.1, x.2.2.2.2.2.2.2.2.2.2.2.2.2.2.2.2.2.2.2.2.2.2.2.2.2.2.2.2.2.2.2.2.2.2.2.2.2.2.2.1, ()), (x.2.2.2.2.2.2.2.2.2.2.2.2.2.2.2.2.2.2.2.2.2.2.2.2.2.2.2.2.2.2.2.2.2.2.2.2.2.2.2.2, ())) : ty_136_0))) (by rfl) (fun _ => rfl) (getE_ok (s := x_flow_deed_gains_133_0_0_0) (un := fn_136_1) (by rfl) (fun _ => rfl)) (step := fun x => st_flow_deed_gains_133_0_0 x.1 x.2.1 x.2.2.1 x.2.2.2.1 x.2.2.2.2.1 x.2.2.2.2.2.1 x.2.2.2.2.2.2.1 x.2.2.2.2.2.2.2.1 x.2.2.2.2.2.2.2.2.1 x.2.2.2.2.2.2.2.2.2.1 x.2.2.2.2.2.2.2.2.2.2.1 x.2.2.2.2.2.2.2.2.2.2.2.1 x.2.2.2.2.2.2.2.2.2.2.2.2.1 x.2.2.2.2.2.2.2.2.2.2.2.2.2.1 x.2.2.2.2.2.2.2.2.2.2.2.2.2.2.1 x.2.2.2.2.2.2.2.2.2.2.2.2.2.2.2.1 x.2.2.2.2.2.2.2.2.2.2.2.2.2.2.2.2.1 x.2.2.2.2.2.2.2.2.2.2.2.2.2.2.2.2.2.1 x.2.2.2.2.2.2.2.2.2.2.2.2.2.2.2.2.2.2.1 x.2.2.2.2.2.2.2.2.2.2.2.2.2.2.2.2.2.2.2.1 x.2.2.2.2.2.2.2.2.2.2.2.2.2.2.2.2.2.2.2.2.1 x.2.2.2.2.2.2.2.2.2.2.2.2.2.2.2.2.2.2.2.2.2.1 x.2.2.2.2.2.2.2.2.2.2.2.2.2.2.2.2.2.2.2.2.2.2.1 x.2.2.2.2.2.2.2.2.2.2.2.2.2.2.2.2.2.2.2.2.2.2.2.1 x.2.2.2.2.2.2.2.2.2.2.2.2.2.2.2.2.2.2.2.2.2.2.2.2.1 x.2.2.2.2.2.2.2.2.2.2.2.2.2.2.2.2.2.2.2.2.2.2.2.2.2.1 x.2.2.2.2.2.2.2.2.2.2.2.2.2.2.2.2.2.2.2.2.2.2.2.2.2.2.1 x.2.2.2.2.2.2.2.2.2.2.2.2.2.2.2.2.2.2.2.2.2.2.2.2.2.2.2.1 x.2.2.2.2.2.2.2.2.2.2.2.2.2.2.2.2.2.2.2.2.2.2.2.2.2.2.2.2.1 x.2.2.2.2.2.2.2.2.2.2.2.2.2.2.2.2.2.2.2.2.2.2.2.2.2.2.2.2.2.1 x.2.2.2.2.2.2.2.2.2.2.2.2.2.2.2.2.2.2.2.2.2.2.2.2.2.2.2.2.2.2.1 x.2.2.2.2.2.2.2.2.2.2.2.2.2.2.2.2.2.2.2.2.2.2.2.2.2.2.2.2.2.2.2.1 x.2.2.2.2.2.2.2.2.2.2.2.2.2.2.2.2.2.2.2.2.2.2.2.2.2.2.2.2.2.2.2.2.1 x.2.2.2.2.2.2.2.2.2.2.2.2.2.2.2.2.2.2.2.2.2.2.2.2.2.2.2.2.2.2.2.2.2.1 x.2.2.2.2.2.2.2.2.2.2.2.2.2.2.2.2.2.2.2.2.2.2.2.2.2.2.2.2.2.2.2.2.2.2.1 x.2.2.2.2.2.2.2.2.2.2.2.2.2.2.2.2.2.2.2.2.2.2.2.2.2.2.2.2.2.2.2.2.2.2.2.1 x.2.2.2.2.2.2.2.2.2.2.2.2.2.2.2.2.2.2.2.2.2.2.2.2.2.2.2.2.2.2.2.2.2.2.2.2.1 x.2.2.2.2.2.2.2.2.2.2.2.2.2.2.2.2.2.2.2.2.2.2.2.2.2.2.2.2.2.2.2.2.2.2.2.2.2.1 x.2.2.2.2.2.2.2.2.2.2.2.2.2.2.2.2.2.2.2.2.2.2.2.2.2.2.2.2.2.2.2.2.2.2.2.2.2.2.1 x.2.2.2.2.2.2.2.2.2.2.2.2.2.2.2.2.2.2.2.2.2.2.2.2.2.2.2.2.2.2.2.2.2.2.2.2.2.2.2.1 x.2.2.2.2.2.2.2.2.2.2.2.2.2.2.2.2.2.2.2.2.2.2.2.2.2.2.2.2.2.2.2.2.2.2.2.2.2.2.2.2) (fun x => rn_flow_deed_gains_133_0_0 x.1 x.2.1 x.2.2.1 x.2.2.2.1 x.2.2.2.2.1 x.2.2.2.2.2.1 x.2.2.2.2.2.2.1 x.2.2.2.2.2.2.2.1 x.2.2.2.2.2.2.2.2.1 x.2.2.2.2.2.2.2.2.2.1 x.2.2.2.2.2.2.2.2.2.2.1 x.2.2.2.2.2.2.2.2.2.2.2.1 x.2.2.2.2.2.2.2.2.2.2.2.2.1 x.2.2.2.2.2.2.2.2.2.2.2.2.2.1 x.2.2.2.2.2.2.2.2.2.2.2.2.2.2.1 x.2.2.2.2.2.2.2.2.2.2.2.2.2.2.2.1 x.2.2.2.2.2.2.2.2.2.2.2.2.2.2.2.2.1 x.2.2.2.2.2.2.2.2.2.2.2.2.2.2.2.2.2.1 x.2.2.2.2.2.2.2.2.2.2.2.2.2.2.2.2.2.2.1 x.2.2.2.2.2.2.2.2.2.2.2.2.2.2.2.2.2.2.2.1 x.2.2.2.2.2.2.2.2.2.2.2.2.2.2.2.2.2.2.2.2.1 x.2.2.2.2.2.2.2.2.2.2.2.2.2.2.2.2.2.2.2.2.2.1 x.2.2.2.2.2.2.2.2.2.2.2.2.2.2.2.2.2.2.2.2.2.2.1 x.2.2.2.2.2.2.2.2.2.2.2.2.2.2.2.2.2.2.2.2.2.2.2.1 x.2.2.2.2.2.2.2.2.2.2.2.2.2.2.2.2.2.2.2.2.2.2.2.2.1 x.2.2.2.2.2.2.2.2.2.2.2.2.2.2.2.2.2.2.2.2.2.2.2.2.2.1 x.2.2.2.2.2.2.2.2.2.2.2.2.2.2.2.2.2.2.2.2.2.2.2.2.2.2.1 x.2.2.2.2.2.2.2.2.2.2.2.2.2.2.2.2.2.2.2.2.2.2.2.2.2.2.2.1 x.2.2.2.2.2.2.2.2.2.2.2.2.2.2.2.2.2.2.2.2.2.2.2.2.2.2.2.2.1 x.2.2.2.2.2.2.2.2.2.2.2.2.2.2.2.2.2.2.2.2.2.2.2.2.2.2.2.2.2.1 x.2.2.2.2.2.2.2.2.2.2.2.2.2.2.2.2.2.2.2.2.2.2.2.2.2.2.2.2.2.2.1 x.2.2.2.2.2.2.2.2.2.2.2.2.2.2.2.2.2.2.2.2.2.2.2.2.2.2.2.2.2.2.2.1 x.2.2.2.2.2.2.2.2.2.2.2.2.2.2.2.2.2.2.2.2.2.2.2.2.2.2.2.2.2.2.2.2.1 x.2.2.2.2.2.2.2.2.2.2.2.2.2.2.2.2.2.2.2.2.2.2.2.2.2.2.2.2.2.2.2.2.2.1 x.2.2.2.2.2.2.2.2.2.2.2.2.2.2.2.2.2.2.2.2.2.2.2.2.2.2.2.2.2.2.2.2.2.2.1 x.2.2.2.2.2.2.2.2.2.2.2.2.2.2.2.2.2.2.2.2.2.2.2.2.2.2.2.2.2.2.2.2.2.2.2.1 x.2.2.2.2.2.2.2.2.2.2.2.2.2.2.2.2.2.2.2.2.2.2.2.2.2.2.2.2.2.2.2.2.2.2.2.2.1 x.2.2.2.2.2.2.2.2.2.2.2.2.2.2.2.2.2.2.2.2.2.2.2.2.2.2.2.2.2.2.2.2.2.2.2.2.2.1 x.2.2.2.2.2.2.2.2.2.2.2.2.2.2.2.2.2.2.2.2.2.2.2.2.2.2.2.2.2.2.2.2.2.2.2.2.2.2.1 x.2.2.2.2.2.2.2.2.2.2.2.2.2.2.2.2.2.2.2.2.2.2.2.2.2.2.2.2.2.2.2.2.2.2.2.2.2.2.2.1 x.2.2.2.2.2.2.2.2.2.2.2.2.2.2.2.2.2.2.2.2.2.2.2.2.2.2.2.2.2.2.2.2.2.2.2.2.2.2.2.2) (fun _ _ e => ⟨_, e⟩) (altE_ok 2 x_flow_deed_gains_133_0_0_0 fn_136_1) (VarOk.fail _ _))
noncomputable def lpI_flow_deed_gains_133_0 (base : Nat) (T : Tm) : Prog (Nat × Tm) := .norm base (kp_flow_deed_gains_133_0 0) T (q_flow_deed_gains_133_0 base)
theorem sndI_flow_deed_gains_133_0 : SoundC Try.prog 47 (.loop (bodyX 133 0)) lpI_flow_deed_gains_133_0 := loopK_sound (cx := cx_flow_deed_gains0) (cal := evF cx_flow_deed_gains0 keeps 8) (kp := keeps 133) (tabOk_of tab_ok) (cmpsOk_of tab_ok cmps_ok) cal_flow_deed_gains0 mixed (hl_of (g := 133) (b := 0) in_flow_deed_gains0 (by kernel_rfl) (by kernel_rfl)) ok_flow_deed_gains_133_0
noncomputable def lpL_flow_deed_gains_133_0 : Nat → Tm → Prog (Nat × Tm) := lpI_flow_deed_gains_133_0
theorem sndL_flow_deed_gains_133_0 : SoundC Try.prog 47 (.loop (bodyX 133 0)) lpL_flow_deed_gains_133_0 := sndI_flow_deed_gains_133_0
noncomputable def lp_flow_deed_gains : Nat → Nat → Option (Nat → Tm → Prog (Nat × Tm))
  | 133, 0 => some lpL_flow_deed_gains_133_0
  | _, _ => none
noncomputable def cx_flow_deed_gains : Ctx := { tab := tab, spec := sp_flow_deed_gains, inl := inl, lps := lp_flow_deed_gains, fuel := 40 }
theorem in_flow_deed_gains : InlOk Try.prog cx_flow_deed_gains := ⟨inl_ok, fun g fn c hg hb q hq p hp => by
  change lp_flow_deed_gains g q.1 = some p at hp
  change inl g = some fn at hg
  generalize hq1 : q.1 = b at hp
  unfold lp_flow_deed_gains at hp
  split at hp
  · cases hp; exact lps_case (inl := inl) hg hb hq hq1 (by kernel_rfl) (by kernel_rfl) sndL_flow_deed_gains_133_0
  · cases hp⟩
theorem cal_flow_deed_gains (g : Nat) : SoundA Try.prog g (evF cx_flow_deed_gains keeps 8 g) := evF_sound (tabOk_of tab_ok) (cmpsOk_of tab_ok cmps_ok) mixed in_flow_deed_gains hsp_flow_deed_gains keeps 8 g
noncomputable def g_flow_deed_gains (a0 : Int) (a1 : Int) (a2 : Int) (a3 : Int) (a4 : Int) (a5 : Int) (a6 : Int) (a7 : Int) (a8 : Int) (a9 : (List Int)) (a10 : (List Int)) (a11 : Int) (a12 : (List C)) (a13 : Int) (a14 : Int) (a15 : Bool) (a16 : (List I)) (a17 : (List I)) (a18 : (List I)) (a19 : Int) (a20 : Int) (a21 : (List En)) (a22 : Bool) (a23 : (List I)) (a24 : (List I)) (a25 : (List I)) (a26 : Int) (a27 : Int) (a28 : Bool) (a29 : (List I)) (a30 : (List I)) (a31 : (List I)) (a32 : Int) (a33 : Int) (a34 : (List Int)) (a35 : (List En)) (a36 : (List Ac)) (a37 : (List I)) (a38 : Bool) : Option (List I) :=
  bif decide (((List.length (α := I) []) + a37.length + 1) * 16 ≤ lim) then
 optC
 (L_flow_deed_gains_133_0_0
 (a0, a1, a2, a3, a4, a5, a6, a7, a8, a9, a10, a11, a12, a13, a14, a15, a16, a17, a18, a19, a20, a21, a22, a23, a24, a25, a26, a27, a28, a29, a30, a31, a32, a33, a34, a35, a36, a38,
 (↑([] ++ a37).length : Int), 0, [] ++ a37))
 none fun d41 ↦ some d41
 else none
theorem raw_flow_deed_gains (a0 : Int) (a1 : Int) (a2 : Int) (a3 : Int) (a4 : Int) (a5 : Int) (a6 : Int) (a7 : Int) (a8 : Int) (a9 : (List Int)) (a10 : (List Int)) (a11 : Int) (a12 : (List C)) (a13 : Int) (a14 : Int) (a15 : Bool) (a16 : (List I)) (a17 : (List I)) (a18 : (List I)) (a19 : Int) (a20 : Int) (a21 : (List En)) (a22 : Bool) (a23 : (List I)) (a24 : (List I)) (a25 : (List I)) (a26 : Int) (a27 : Int) (a28 : Bool) (a29 : (List I)) (a30 : (List I)) (a31 : (List I)) (a32 : Int) (a33 : Int) (a34 : (List Int)) (a35 : (List En)) (a36 : (List Ac)) (a37 : (List I)) (a38 : Bool) : evRX cx_flow_deed_gains keeps 8 133 ash_flow_deed_gains tI (((a0, a1, a2, a3, a4, a5, a6, a7, a8, a9, a10, a11, a12, a13, a14, a15, a16, a17, a18, a19, a20, a21, a22, a23, a24, a25, a26, a27, a28, a29, a30, a31, a32, a33, a34, a35, a36, ()), a37, a38, ()) : ty_136_1) = g_flow_deed_gains a0 a1 a2 a3 a4 a5 a6 a7 a8 a9 a10 a11 a12 a13 a14 a15 a16 a17 a18 a19 a20 a21 a22 a23 a24 a25 a26 a27 a28 a29 a30 a31 a32 a33 a34 a35 a36 a37 a38 := by kernel_rfl
noncomputable def G_flow_deed_gains (x : ty_136_1) : Option (List I) := g_flow_deed_gains x.1.1 x.1.2.1 x.1.2.2.1 x.1.2.2.2.1 x.1.2.2.2.2.1 x.1.2.2.2.2.2.1 x.1.2.2.2.2.2.2.1 x.1.2.2.2.2.2.2.2.1 x.1.2.2.2.2.2.2.2.2.1 x.1.2.2.2.2.2.2.2.2.2.1 x.1.2.2.2.2.2.2.2.2.2.2.1 x.1.2.2.2.2.2.2.2.2.2.2.2.1 x.1.2.2.2.2.2.2.2.2.2.2.2.2.1 x.1.2.2.2.2.2.2.2.2.2.2.2.2.2.1 x.1.2.2.2.2.2.2.2.2.2.2.2.2.2.2.1 x.1.2.2.2.2.2.2.2.2.2.2.2.2.2.2.2.1 x.1.2.2.2.2.2.2.2.2.2.2.2.2.2.2.2.2.1 x.1.2.2.2.2.2.2.2.2.2.2.2.2.2.2.2.2.2.1 x.1.2.2.2.2.2.2.2.2.2.2.2.2.2.2.2.2.2.2.1 x.1.2.2.2.2.2.2.2.2.2.2.2.2.2.2.2.2.2.2.2.1 x.1.2.2.2.2.2.2.2.2.2.2.2.2.2.2.2.2.2.2.2.2.1 x.1.2.2.2.2.2.2.2.2.2.2.2.2.2.2.2.2.2.2.2.2.2.1 x.1.2.2.2.2.2.2.2.2.2.2.2.2.2.2.2.2.2.2.2.2.2.2.1 x.1.2.2.2.2.2.2.2.2.2.2.2.2.2.2.2.2.2.2.2.2.2.2.2.1 x.1.2.2.2.2.2.2.2.2.2.2.2.2.2.2.2.2.2.2.2.2.2.2.2.2.1 x.1.2.2.2.2.2.2.2.2.2.2.2.2.2.2.2.2.2.2.2.2.2.2.2.2.2.1 x.1.2.2.2.2.2.2.2.2.2.2.2.2.2.2.2.2.2.2.2.2.2.2.2.2.2.2.1 x.1.2.2.2.2.2.2.2.2.2.2.2.2.2.2.2.2.2.2.2.2.2.2.2.2.2.2.2.1 x.1.2.2.2.2.2.2.2.2.2.2.2.2.2.2.2.2.2.2.2.2.2.2.2.2.2.2.2.2.1 x.1.2.2.2.2.2.2.2.2.2.2.2.2.2.2.2.2.2.2.2.2.2.2.2.2.2.2.2.2.2.1 x.1.2.2.2.2.2.2.2.2.2.2.2.2.2.2.2.2.2.2.2.2.2.2.2.2.2.2.2.2.2.2.1 x.1.2.2.2.2.2.2.2.2.2.2.2.2.2.2.2.2.2.2.2.2.2.2.2.2.2.2.2.2.2.2.2.1 x.1.2.2.2.2.2.2.2.2.2.2.2.2.2.2.2.2.2.2.2.2.2.2.2.2.2.2.2.2.2.2.2.2.1 x.1.2.2.2.2.2.2.2.2.2.2.2.2.2.2.2.2.2.2.2.2.2.2.2.2.2.2.2.2.2.2.2.2.2.1 x.1.2.2.2.2.2.2.2.2.2.2.2.2.2.2.2.2.2.2.2.2.2.2.2.2.2.2.2.2.2.2.2.2.2.2.1 x.1.2.2.2.2.2.2.2.2.2.2.2.2.2.2.2.2.2.2.2.2.2.2.2.2.2.2.2.2.2.2.2.2.2.2.2.1 x.1.2.2.2.2.2.2.2.2.2.2.2.2.2.2.2.2.2.2.2.2.2.2.2.2.2.2.2.2.2.2.2.2.2.2.2.2.1 x.2.1 x.2.2.1
noncomputable def con_flow_deed_gains : List AV → Prog AV := conR false ash_flow_deed_gains tI G_flow_deed_gains
theorem snd_flow_deed_gains : SoundA Try.prog 133 con_flow_deed_gains := conR_sound (cal_flow_deed_gains 133) false (by rfl) (fun x r e => (evRX_eq _ _ _ _ _ _ _).trans ((raw_flow_deed_gains x.1.1 x.1.2.1 x.1.2.2.1 x.1.2.2.2.1 x.1.2.2.2.2.1 x.1.2.2.2.2.2.1 x.1.2.2.2.2.2.2.1 x.1.2.2.2.2.2.2.2.1 x.1.2.2.2.2.2.2.2.2.1 x.1.2.2.2.2.2.2.2.2.2.1 x.1.2.2.2.2.2.2.2.2.2.2.1 x.1.2.2.2.2.2.2.2.2.2.2.2.1 x.1.2.2.2.2.2.2.2.2.2.2.2.2.1 x.1.2.2.2.2.2.2.2.2.2.2.2.2.2.1 x.1.2.2.2.2.2.2.2.2.2.2.2.2.2.2.1 x.1.2.2.2.2.2.2.2.2.2.2.2.2.2.2.2.1 x.1.2.2.2.2.2.2.2.2.2.2.2.2.2.2.2.2.1 x.1.2.2.2.2.2.2.2.2.2.2.2.2.2.2.2.2.2.1 x.1.2.2.2.2.2.2.2.2.2.2.2.2.2.2.2.2.2.2.1 x.1.2.2.2.2.2.2.2.2.2.2.2.2.2.2.2.2.2.2.2.1 x.1.2.2.2.2.2.2.2.2.2.2.2.2.2.2.2.2.2.2.2.2.1 x.1.2.2.2.2.2.2.2.2.2.2.2.2.2.2.2.2.2.2.2.2.2.1 x.1.2.2.2.2.2.2.2.2.2.2.2.2.2.2.2.2.2.2.2.2.2.2.1 x.1.2.2.2.2.2.2.2.2.2.2.2.2.2.2.2.2.2.2.2.2.2.2.2.1 x.1.2.2.2.2.2.2.2.2.2.2.2.2.2.2.2.2.2.2.2.2.2.2.2.2.1 x.1.2.2.2.2.2.2.2.2.2.2.2.2.2.2.2.2.2.2.2.2.2.2.2.2.2.1 x.1.2.2.2.2.2.2.2.2.2.2.2.2.2.2.2.2.2.2.2.2.2.2.2.2.2.2.1 x.1.2.2.2.2.2.2.2.2.2.2.2.2.2.2.2.2.2.2.2.2.2.2.2.2.2.2.2.1 x.1.2.2.2.2.2.2.2.2.2.2.2.2.2.2.2.2.2.2.2.2.2.2.2.2.2.2.2.2.1 x.1.2.2.2.2.2.2.2.2.2.2.2.2.2.2.2.2.2.2.2.2.2.2.2.2.2.2.2.2.2.1 x.1.2.2.2.2.2.2.2.2.2.2.2.2.2.2.2.2.2.2.2.2.2.2.2.2.2.2.2.2.2.2.1 x.1.2.2.2.2.2.2.2.2.2.2.2.2.2.2.2.2.2.2.2.2.2.2.2.2.2.2.2.2.2.2.2.1 x.1.2.2.2.2.2.2.2.2.2.2.2.2.2.2.2.2.2.2.2.2.2.2.2.2.2.2.2.2.2.2.2.2.1 x.1.2.2.2.2.2.2.2.2.2.2.2.2.2.2.2.2.2.2.2.2.2.2.2.2.2.2.2.2.2.2.2.2.2.1 x.1.2.2.2.2.2.2.2.2.2.2.2.2.2.2.2.2.2.2.2.2.2.2.2.2.2.2.2.2.2.2.2.2.2.2.1 x.1.2.2.2.2.2.2.2.2.2.2.2.2.2.2.2.2.2.2.2.2.2.2.2.2.2.2.2.2.2.2.2.2.2.2.2.1 x.1.2.2.2.2.2.2.2.2.2.2.2.2.2.2.2.2.2.2.2.2.2.2.2.2.2.2.2.2.2.2.2.2.2.2.2.2.1 x.2.1 x.2.2.1).trans e)) (.inr (by rfl))
end Go.Proofs.Ytbdcblpjemmipaa.Ex

namespace Go.Proofs.Ytbdcblpjemmipaa.Ex
open Go.Proofs Go.Proofs.Ytbdcblpjemmipaa
set_option maxRecDepth 100000
set_option maxHeartbeats 2000000
set_option linter.unusedVariables false
set_option linter.unusedSimpArgs false
abbrev ty_137_0 : Type := ((Int × ((List En) × (Unit × (Unit × (Unit × (Unit × (Unit × (Int × Unit)))))))) × ((Int × (Int × (Int × (Int × (Int × (Int × (Int × (Int × (Int × Unit))))))))) × ((Bool × ((List I) × ((List I) × ((List I) × (Int × (Int × Unit)))))) × ((Bool × (Unit × (Unit × (Unit × (Int × (Int × (Bool × (Unit × (Unit × (Unit × (Int × (Int × (Unit × (Unit × (Unit × Unit))))))))))))))) × ((Bool × (Unit × (Unit × (Unit × (Int × (Int × (Bool × (Unit × (Unit × (Unit × (Int × (Int × (Unit × (Unit × (Unit × Unit))))))))))))))) × ((List Int) × ((Bool × ((List I) × (Unit × (Unit × (Int × (Int × Unit)))))) × ((List I) × ((List I) × Unit)))))))))
abbrev ty_137_1 : Type := ((Int × ((List En) × (Unit × (Unit × (Unit × (Unit × (Unit × Unit))))))) × ((Int × (Int × (Int × (Int × (Int × (Int × (Int × (Int × (Int × Unit))))))))) × ((Bool × ((List I) × ((List I) × ((List I) × (Int × (Int × Unit)))))) × ((Bool × (Unit × (Unit × (Unit × (Int × (Int × (Bool × (Unit × (Unit × (Unit × (Int × (Int × (Unit × (Unit × (Unit × Unit))))))))))))))) × ((Bool × (Unit × (Unit × (Unit × (Int × (Int × (Bool × (Unit × (Unit × (Unit × (Int × (Int × (Unit × (Unit × (Unit × Unit))))))))))))))) × ((List Int) × ((Bool × ((List I) × (Unit × (Unit × (Int × (Int × Unit)))))) × ((List I) × ((List I) × Unit)))))))))
abbrev ty_137_2 : Type := ((Int × ((List En) × (Unit × (Unit × (Unit × (Unit × (Unit × (Int × Unit)))))))) × ((Int × (Int × (Int × (Int × (Int × (Int × (Int × (Int × (Int × Unit))))))))) × ((Bool × ((List I) × ((List I) × ((List I) × (Int × (Int × Unit)))))) × ((Bool × (Unit × (Unit × (Unit × (Int × (Int × (Bool × (Unit × (Unit × (Unit × (Int × (Int × (Unit × (Unit × (Unit × Unit))))))))))))))) × ((Bool × (Unit × (Unit × (Unit × (Int × (Int × (Bool × (Unit × (Unit × (Unit × (Int × (Int × (Unit × (Unit × (Unit × Unit))))))))))))))) × ((Bool × ((List I) × (Unit × (Unit × (Int × (Int × Unit)))))) × ((List I) × ((List I) × Unit))))))))
abbrev ty_137_3 : Type := ((Int × ((List En) × (Unit × (Unit × (Unit × (Unit × (Unit × Unit))))))) × ((Int × (Int × (Int × (Int × (Int × (Int × (Int × (Int × (Int × Unit))))))))) × ((Bool × ((List I) × ((List I) × ((List I) × (Int × (Int × Unit)))))) × ((Bool × (Unit × (Unit × (Unit × (Int × (Int × (Bool × (Unit × (Unit × (Unit × (Int × (Int × (Unit × (Unit × (Unit × Unit))))))))))))))) × ((Bool × (Unit × (Unit × (Unit × (Int × (Int × (Bool × (Unit × (Unit × (Unit × (Int × (Int × (Unit × (Unit × (Unit × Unit))))))))))))))) × ((Bool × ((List I) × (Unit × (Unit × (Int × (Int × Unit)))))) × ((List I) × ((List I) × Unit))))))))
abbrev ty_137_4 : Type := ((Unit × (Unit × (Unit × (Unit × (Unit × Unit))))) × ((Int × (Int × (Int × (Int × (Int × (Int × (Int × (Int × (Int × Unit))))))))) × ((Bool × ((List I) × ((List I) × ((List I) × (Int × (Int × Unit)))))) × ((Bool × (Unit × (Unit × (Unit × (Int × (Int × (Bool × (Unit × (Unit × (Unit × (Int × (Int × (Unit × (Unit × (Unit × Unit))))))))))))))) × ((Bool × (Unit × (Unit × (Unit × (Int × (Int × (Bool × (Unit × (Unit × (Unit × (Int × (Int × (Unit × (Unit × (Unit × Unit))))))))))))))) × ((List Int) × ((Bool × ((List I) × (Unit × (Unit × (Int × (Int × Unit)))))) × ((List I) × ((List I) × Unit)))))))))
abbrev ty_137_5 : Type := ((Unit × (Unit × (Unit × (Unit × (Unit × Unit))))) × ((Int × (Int × (Int × (Int × (Int × (Int × (Int × (Int × (Int × Unit))))))))) × ((Bool × ((List I) × ((List I) × ((List I) × (Int × (Int × Unit)))))) × ((Bool × (Unit × (Unit × (Unit × (Int × (Int × (Bool × (Unit × (Unit × (Unit × (Int × (Int × (Unit × (Unit × (Unit × Unit))))))))))))))) × ((Bool × (Unit × (Unit × (Unit × (Int × (Int × (Bool × (Unit × (Unit × (Unit × (Int × (Int × (Unit × (Unit × (Unit × Unit))))))))))))))) × ((Bool × ((List I) × (Unit × (Unit × (Int × (Int × Unit)))))) × ((List I) × ((List I) × Unit))))))))
abbrev ty_137_6 : Type := (Int × (List En) × Int × Int × Int × Int × Int × Int × Int × Int × Int × Int × Bool × (List I) × (List I) × (List I) × Int × Int × Bool × Int × Int × Bool × Int × Int × Bool × Int × Int × Bool × Int × Int × (List Int) × Bool × (List I) × Int × Int × (List I) × (List I))
abbrev ty_137_7 : Type := (Int × (List En) × Int × Int × Int × Int × Int × Int × Int × Int × Int × Bool × (List I) × (List I) × (List I) × Int × Int × Bool × Int × Int × Bool × Int × Int × Bool × Int × Int × Bool × Int × Int × (List Int) × Bool × (List I) × Int × Int × (List I) × (List I))
abbrev ty_137_8 : Type := (Int × (List En) × Int × Int × Int × Int × Int × Int × Int × Int × Int × Int × Bool × (List I) × (List I) × (List I) × Int × Int × Bool × Int × Int × Bool × Int × Int × Bool × Int × Int × Bool × Int × Int × Bool × (List I) × Int × Int × (List I) × (List I))
abbrev ty_137_9 : Type := (Int × (List En) × Int × Int × Int × Int × Int × Int × Int × Int × Int × Bool × (List I) × (List I) × (List I) × Int × Int × Bool × Int × Int × Bool × Int × Int × Bool × Int × Int × Bool × Int × Int × Bool × (List I) × Int × Int × (List I) × (List I))
abbrev ty_137_10 : Type := (Int × Int × Int × Int × Int × Int × Int × Int × Int × Bool × (List I) × (List I) × (List I) × Int × Int × Bool × Int × Int × Bool × Int × Int × Bool × Int × Int × Bool × Int × Int × (List Int) × Bool × (List I) × Int × Int × (List I) × (List I))
abbrev ty_137_11 : Type := (Int × Int × Int × Int × Int × Int × Int × Int × Int × Bool × (List I) × (List I) × (List I) × Int × Int × Bool × Int × Int × Bool × Int × Int × Bool × Int × Int × Bool × Int × Int × Bool × (List I) × Int × Int × (List I) × (List I))
abbrev fn_137_0 := (fun (x : ty_137_6) => (((x.1, x.2.1, (), (), (), (), (), x.2.2.1, ()), ((x.2.2.2.1, x.2.2.2.2.1, x.2.2.2.2.2.1, x.2.2.2.2.2.2.1, x.2.2.2.2.2.2.2.1, x.2.2.2.2.2.2.2.2.1, x.2.2.2.2.2.2.2.2.2.1, x.2.2.2.2.2.2.2.2.2.2.1, x.2.2.2.2.2.2.2.2.2.2.2.1, ()), (x.2.2.2.2.2.2.2.2.2.2.2.2.1, x.2.2.2.2.2.2.2.2.2.2.2.2.2.1, x.2.2.2.2.2.2.2.2.2.2.2.2.2.2.1, x.2.2.2.2.2.2.2.2.2.2.2.2.2.2.2.1, x.2.2.2.2.2.2.2.2.2.2.2.2.2.2.2.2.1, x.2.2.2.2.2.2.2.2.2.2.2.2.2.2.2.2.2.1, ()), (x.2.2.2.2.2.2.2.2.2.2.2.2.2.2.2.2.2.2.1, (), (), (), x.2.2.2.2.2.2.2.2.2.2.2.2.2.2.2.2.2.2.2.1, x.2.2.2.2.2.2.2.2.2.2.2.2.2.2.2.2.2.2.2.2.1, x.2.2.2.2.2.2.2.2.2.2.2.2.2.2.2.2.2.2.2.2.2.1, (), (), (), x.2.2.2.2.2.2.2.2.2.2.2.2.2.2.2.2.2.2.2.2.2.2.1, x.2.2.2.2.2.2.2.2.2.2.2.2.2.2.2.2.2.2.2.2.2.2.2.1, (), (), (), ()), (x.2.2.2.2.2.2.2.2.2.2.2.2.2.2.2.2.2.2.2.2.2.2.2.2.1, (), (), (), x.2.2.2.2.2.2.2.2.2.2.2.2.2.2.2.2.2.2.2.2.2.2.2.2.2.1, x.2.2.2.2.2.2.2.2.2.2.2.2.2.2.2.2.2.2.2.2.2.2.2.2.2.2.1, x.2.2.2.2.2.2.2.2.2.2.2.2.2.2.2.2.2.2.2.2.2.2.2.2.2.2.2.1, (), (), (), x.2.2.2.2.2.2.2.2.2.2.2.2.2.2.2.2.2.2.2.2.2.2.2.2.2.2.2.2.1, x.2.2.2.2.2.2.2.2.2.2.2.2.2.2.2.2.2.2.2.2.2.2.2.2.2.2.2.2.2.1, (), (), (), ()), x.2.2.2.2.2.2.2.2.2.2.2.2.2.2.2.2.2.2.2.2.2.2.2.2.2.2.2.2.2.2.1, (x.2.2.2.2.2.2.2.2.2.2.2.2.2.2.2.2.2.2.2.2.2.2.2.2.2.2.2.2.2.2.2.1, x.2.2.2.2.2.2.2.2.2.2.2.2.2.2.2.2.2.2.2.2.2.2.2.2.2.2.2.2.2.2.2.2.1, (), (), x.2.2.2.2.2.2.2.2.2.2.2.2.2.2.2.2.2.2.2.2.2.2.2.2.2.2.2.2.2.2.2.2.2.1, x.2.2.2.2.2.2.2.2.2.2.2.2.2.2.2.2.2.2.2.2.2.2.2.2.2.2.2.2.2.2.2.2.2.2.1, ()), x.2.2.2.2.2.2.2.2.2.2.2.2.2.2.2.2.2.2.2.2.2.2.2.2.2.2.2.2.2.2.2.2.2.2.2.1, x.2.2.2.2.2.2.2.2.2.2.2.2.2.2.2.2.2.2.2.2.2.2.2.2.2.2.2.2.2.2.2.2.2.2.2.2, ())) : ty_137_0))
abbrev fn_137_1 := (fun (x : ty_137_7) => (((x.1, x.2.1, (), (), (), (), (), ()), ((x.2.2.1, x.2.2.2.1, x.2.2.2.2.1, x.2.2.2.2.2.1, x.2.2.2.2.2.2.1, x.2.2.2.2.2.2.2.1, x.2.2.2.2.2.2.2.2.1, x.2.2.2.2.2.2.2.2.2.1, x.2.2.2.2.2.2.2.2.2.2.1, ()), (x.2.2.2.2.2.2.2.2.2.2.2.1, x.2.2.2.2.2.2.2.2.2.2.2.2.1, x.2.2.2.2.2.2.2.2.2.2.2.2.2.1, x.2.2.2.2.2.2.2.2.2.2.2.2.2.2.1, x.2.2.2.2.2.2.2.2.2.2.2.2.2.2.2.1, x.2.2.2.2.2.2.2.2.2.2.2.2.2.2.2.2.1, ()), (x.2.2.2.2.2.2.2.2.2.2.2.2.2.2.2.2.2.1, (), (), (), x.2.2.2.2.2.2.2.2.2.2.2.2.2.2.2.2.2.2.1, x.2.2.2.2.2.2.2.2.2.2.2.2.2.2.2.2.2.2.2.1, x.2.2.2.2.2.2.2.2.2.2.2.2.2.2.2.2.2.2.2.2.1, (), (), (), x.2.2.2.2.2.2.2.2.2.2.2.2.2.2.2.2.2.2.2.2.2.1, x.2.2.2.2.2.2.2.2.2.2.2.2.2.2.2.2.2.2.2.2.2.2.1, (), (), (), ()), (x.2.2.2.2.2.2.2.2.2.2.2.2.2.2.2.2.2.2.2.2.2.2.2.1, (), (), (), x.2.2.2.2.2.2.2.2.2.2.2.2.2.2.2.2.2.2.2.2.2.2.2.2.1, x.2.2.2.2.2.2.2.2.2.2.2.2.2.2.2.2.2.2.2.2.2.2.2.2.2.1, x.2.2.2.2.2.2.2.2.2.2.2.2.2.2.2.2.2.2.2.2.2.2.2.2.2.2.1, (), (), (), x.2.2.2.2.2.2.2.2.2.2.2.2.2.2.2.2.2.2.2.2.2.2.2.2.2.2.2.1, x.2.2.2.2.2.2.2.2.2.2.2.2.2.2.2.2.2.2.2.2.2.2.2.2.2.2.2.2.1, (), (), (), ()), x.2.2.2.2.2.2.2.2.2.2.2.2.2.2.2.2.2.2.2.2.2.2.2.2.2.2.2.2.2.1, (x.2.2.2.2.2.2.2.2.2.2.2.2.2.2.2.2.2.2.2.2.2.2.2.2.2.2.2.2.2.2.1, x.2.2.2.2.2.2.2.2.2.2.2.2.2.2.2.2.2.2.2.2.2.2.2.2.2.2.2.2.2.2.2.1, (), (), x.2.2.2.2.2.2.2.2.2.2.2.2.2.2.2.2.2.2.2.2.2.2.2.2.2.2.2.2.2.2.2.2.1, x.2.2.2.2.2.2.2.2.2.2.2.2.2.2.2.2.2.2.2.2.2.2.2.2.2.2.2.2.2.2.2.2.2.1, ()), x.2.2.2.2.2.2.2.2.2.2.2.2.2.2.2.2.2.2.2.2.2.2.2.2.2.2.2.2.2.2.2.2.2.2.1, x.2.2.2.2.2.2.2.2.2.2.2.2.2.2.2.2.2.2.2.2.2.2.2.2.2.2.2.2.2.2.2.2.2.2.2, ())) : ty_137_1))
abbrev fn_137_2 := (fun (x : ty_137_8) => (((x.1, x.2.1, (), (), (), (), (), x.2.2.1, ()), ((x.2.2.2.1, x.2.2.2.2.1, x.2.2.2.2.2.1, x.2.2.2.2.2.2.1, x.2.2.2.2.2.2.2.1, x.2.2.2.2.2.2.2.2.1, x.2.2.2.2.2.2.2.2.2.1, x.2.2.2.2.2.2.2.2.2.2.1, x.2.2.2.2.2.2.2.2.2.2.2.1, ()), (x.2.2.2.2.2.2.2.2.2.2.2.2.1, x.2.2.2.2.2.2.2.2.2.2.2.2.2.1, x.2.2.2.2.2.2.2.2.2.2.2.2.2.2.1, x.2.2.2.2.2.2.2.2.2.2.2.2.2.2.2.1, x.2.2.2.2.2.2.2.2.2.2.2.2.2.2.2.2.1, x.2.2.2.2.2.2.2.2.2.2.2.2.2.2.2.2.2.1, ()), (x.2.2.2.2.2.2.2.2.2.2.2.2.2.2.2.2.2.2.1, (), (), (), x.2.2.2.2.2.2.2.2.2.2.2.2.2.2.2.2.2.2.2.1, x.2.2.2.2.2.2.2.2.2.2.2.2.2.2.2.2.2.2.2.2.1, x.2.2.2.2.2.2.2.2.2.2.2.2.2.2.2.2.2.2.2.2.2.1, (), (), (), x.2.2.2.2.2.2.2.2.2.2.2.2.2.2.2.2.2.2.2.2.2.2.1, x.2.2.2.2.2.2.2.2.2.2.2.2.2.2.2.2.2.2.2.2.2.2.2.1, (), (), (), ()), (x.2.2.2.2.2.2.2.2.2.2.2.2.2.2.2.2.2.2.2.2.2.2.2.2.1, (), (), (), x.2.2.2.2.2.2.2.2.2.2.2.2.2.2.2.2.2.2.2.2.2.2.2.2.2.1, x.2.2.2.2.2.2.2.2.2.2.2.2.2.2.2.2.2.2.2.2.2.2.2.2.2.2.1, x.2.2.2.2.2.2.2.2.2.2.2.2.2.2.2.2.2.2.2.2.2.2.2.2.2.2.2.1, (), (), (), x.2.2.2.2.2.2.2.2.2.2.2.2.2.2.2.2.2.2.2.2.2.2.2.2.2.2.2.2.1, x.2.2.2.2.2.2.2.2.2.2.2.2.2.2.2.2.2.2.2.2.2.2.2.2.2.2.2.2.2.1, (), (), (), ()), (x.2.2.2.2.2.2.2.2.2.2.2.2.2.2.2.2.2.2.2.2.2.2.2.2.2.2.2.2.2.2.1, x.2.2.2.2.2.2.2.2.2.2.2.2.2.2.2.2.2.2.2.2.2.2.2.2.2.2.2.2.2.2.2.1, (), (), x.2.2.2.2.2.2.2.2.2.2.2.2.2.2.2.2.2.2.2.2.2.2.2.2.2.2.2.2.2.2.2.2.1, x.2.2.2.2.2.2.2.2.2.2.2.2.2.2.2.2.2.2.2.2.2.2.2.2.2.2.2.2.2.2.2.2.2.1, ()), x.2.2.2.2.2.2.2.2.2.2.2.2.2.2.2.2.2.2.2.2.2.2.2.2.2.2.2.2.2.2.2.2.2.2.1, x.2.2.2.2.2.2.2.2.2.2.2.2.2.2.2.2.2.2.2.2.2.2.2.2.2.2.2.2.2.2.2.2.2.2.2, ())) : ty_137_2))
abbrev fn_137_3 := (fun (x : ty_137_9) => (((x.1, x.2.1, (), (), (), (), (), ()), ((x.2.2.1, x.2.2.2.1, x.2.2.2.2.1, x.2.2.2.2.2.1, x.2.2.2.2.2.2.1, x.2.2.2.2.2.2.2.1, x.2.2.2.2.2.2.2.2.1, x.2.2.2.2.2.2.2.2.2.1, x.2.2.2.2.2.2.2.2.2.2.1, ()), (x.2.2.2.2.2.2.2.2.2.2.2.1, x.2.2.2.2.2.2.2.2.2.2.2.2.1, x.2.2.2.2.2.2.2.2.2.2.2.2.2.1, x.2.2.2.2.2.2.2.2.2.2.2.2.2.2.1, x.2.2.2.2.2.2.2.2.2.2.2.2.2.2.2.1, x.2.2.2.2.2.2.2.2.2.2.2.2.2.2.2.2.1, ()), (x.2.2.2.2.2.2.2.2.2.2.2.2.2.2.2.2.2.1, (), (), (), x.2.2.2.2.2.2.2.2.2.2.2.2.2.2.2.2.2.2.1, x.2.2.2.2.2.2.2.2.2.2.2.2.2.2.2.2.2.2.2.1, x.2.2.2.2.2.2.2.2.2.2.2.2.2.2.2.2.2.2.2.2.1, (), (), (), x.2.2.2.2.2.2.2.2.2.2.2.2.2.2.2.2.2.2.2.2.2.1, x.2.2.2.2.2.2.2.2.2.2.2.2.2.2.2.2.2.2.2.2.2.2.1, (), (), (), ()), (x.2.2.2.2.2.2.2.2.2.2.2.2.2.2.2.2.2.2.2.2.2.2.2.1, (), (), (), x.2.2.2.2.2.2.2.2.2.2.2.2.2.2.2.2.2.2.2.2.2.2.2.2.1, x.2.2.2.2.2.2.2.2.2.2.2.2.2.2.2.2.2.2.2.2.2.2.2.2.2.1, x.2.2.2.2.2.2.2.2.2.2.2.2.2.2.2.2.2.2.2.2.2.2.2.2.2.2.1, (), (), (), x.2.2.2.2.2.2.2.2.2.2.2.2.2.2.2.2.2.2.2.2.2.2.2.2.2.2.2.1, x.2.2.2.2.2.2.2.2.2.2.2.2.2.2.2.2.2.2.2.2.2.2.2.2.2.2.2.2.1, (), (), (), ()), (x.2.2.2.2.2.2.2.2.2.2.2.2.2.2.2.2.2.2.2.2.2.2.2.2.2.2.2.2.2.1, x.2.2.2.2.2.2.2.2.2.2.2.2.2.2.2.2.2.2.2.2.2.2.2.2.2.2.2.2.2.2.1, (), (), x.2.2.2.2.2.2.2.2.2.2.2.2.2.2.2.2.2.2.2.2.2.2.2.2.2.2.2.2.2.2.2.1, x.2.2.2.2.2.2.2.2.2.2.2.2.2.2.2.2.2.2.2.2.2.2.2.2.2.2.2.2.2.2.2.2.1, ()), x.2.2.2.2.2.2.2.2.2.2.2.2.2.2.2.2.2.2.2.2.2.2.2.2.2.2.2.2.2.2.2.2.2.1, x.2.2.2.2.2.2.2.2.2.2.2.2.2.2.2.2.2.2.2.2.2.2.2.2.2.2.2.2.2.2.2.2.2.2, ())) : ty_137_3))
abbrev fn_137_4 := (fun (x : ty_137_10) => ((((), (), (), (), (), ()), ((x.1, x.2.1, x.2.2.1, x.2.2.2.1, x.2.2.2.2.1, x.2.2.2.2.2.1, x.2.2.2.2.2.2.1, x.2.2.2.2.2.2.2.1, x.2.2.2.2.2.2.2.2.1, ()), (x.2.2.2.2.2.2.2.2.2.1, x.2.2.2.2.2.2.2.2.2.2.1, x.2.2.2.2.2.2.2.2.2.2.2.1, x.2.2.2.2.2.2.2.2.2.2.2.2.1, x.2.2.2.2.2.2.2.2.2.2.2.2.2.1, x.2.2.2.2.2.2.2.2.2.2.2.2.2.2.1, ()), (x.2.2.2.2.2.2.2.2.2.2.2.2.2.2.2.1, (), (), (), x.2.2.2.2.2.2.2.2.2.2.2.2.2.2.2.2.1, x.2.2.2.2.2.2.2.2.2.2.2.2.2.2.2.2.2.1, x.2.2.2.2.2.2.2.2.2.2.2.2.2.2.2.2.2.2.1, (), (), (), x.2.2.2.2.2.2.2.2.2.2.2.2.2.2.2.2.2.2.2.1, x.2.2.2.2.2.2.2.2.2.2.2.2.2.2.2.2.2.2.2.2.1, (), (), (), ()), (x.2.2.2.2.2.2.2.2.2.2.2.2.2.2.2.2.2.2.2.2.2.1, (), (), (), x.2.2.2.2.2.2.2.2.2.2.2.2.2.2.2.2.2.2.2.2.2.2.1, x.2.2.2.2.2.2.2.2.2.2.2.2.2.2.2.2.2.2.2.2.2.2.2.1, x.2.2.2.2.2.2.2.2.2.2.2.2.2.2.2.2.2.2.2.2.2.2.2.2.1, (), (), (), x.2.2.2.2.2.2.2.2.2.2.2.2.2.2.2.2.2.2.2.2.2.2.2.2.2.1, x.2.2.2.2.2.2.2.2.2.2.2.2.2.2.2.2.2.2.2.2.2.2.2.2.2.2.1, (), (), (), ()), x.2.2.2.2.2.2.2.2.2.2.2.2.2.2.2.2.2.2.2.2.2.2.2.2.2.2.2.1, (x.2.2.2.2.2.2.2.2.2.2.2.2.2.2.2.2.2.2.2.2.2.2.2.2.2.2.2.2.1, x.2.2.2.2.2.2.2.2.2.2.2.2.2.2.2.2.2.2.2.2.2.2.2.2.2.2.2.2.2.1, (), (), x.2.2.2.2.2.2.2.2.2.2.2.2.2.2.2.2.2.2.2.2.2.2.2.2.2.2.2.2.2.2.1, x.2.2.2.2.2.2.2.2.2.2.2.2.2.2.2.2.2.2.2.2.2.2.2.2.2.2.2.2.2.2.2.1, ()), x.2.2.2.2.2.2.2.2.2.2.2.2.2.2.2.2.2.2.2.2.2.2.2.2.2.2.2.2.2.2.2.2.1, x.2.2.2.2.2.2.2.2.2.2.2.2.2.2.2.2.2.2.2.2.2.2.2.2.2.2.2.2.2.2.2.2.2, ())) : ty_137_4))
abbrev fn_137_5 := (fun (x : ty_137_11) => ((((), (), (), (), (), ()), ((x.1, x.2.1, x.2.2.1, x.2.2.2.1, x.2.2.2.2.1, x.2.2.2.2.2.1, x.2.2.2.2.2.2.1, x.2.2.2.2.2.2.2.1, x.2.2.2.2.2.2.2.2.1, ()), (x.2.2.2.2.2.2.2.2.2.1, x.2.2.2.2.2.2.2.2.2.2.1, x.2.2.2.2.2.2.2.2.2.2.2.1, x.2.2.2.2.2.2.2.2.2.2.2.2.1, x.2.2.2.2.2.2.2.2.2.2.2.2.2.1, x.2.2.2.2.2.2.2.2.2.2.2.2.2.2.1, ()), (x.2.2.2.2.2.2.2.2.2.2.2.2.2.2.2.1, (), (), (), x.2.2.2.2.2.2.2.2.2.2.2.2.2.2.2.2.1, x.2.2.2.2.2.2.2.2.2.2.2.2.2.2.2.2.2.1, x.2.2.2.2.2.2.2.2.2.2.2.2.2.2.2.2.2.2.1, (), (), (), x.2.2.2.2.2.2.2.2.2.2.2.2.2.2.2.2.2.2.2.1, x.2.2.2.2.2.2.2.2.2.2.2.2.2.2.2.2.2.2.2.2.1, (), (), (), ()), (x.2.2.2.2.2.2.2.2.2.2.2.2.2.2.2.2.2.2.2.2.2.1, (), (), (), x.2.2.2.2.2.2.2.2.2.2.2.2.2.2.2.2.2.2.2.2.2.2.1, x.2.2.2.2.2.2.2.2.2.2.2.2.2.2.2.2.2.2.2.2.2.2.2.1, x.2.2.2.2.2.2.2.2.2.2.2.2.2.2.2.2.2.2.2.2.2.2.2.2.1, (), (), (), x.2.2.2.2.2.2.2.2.2.2.2.2.2.2.2.2.2.2.2.2.2.2.2.2.2.1, x.2.2.2.2.2.2.2.2.2.2.2.2.2.2.2.2.2.2.2.2.2.2.2.2.2.2.1, (), (), (), ()), (x.2.2.2.2.2.2.2.2.2.2.2.2.2.2.2.2.2.2.2.2.2.2.2.2.2.2.2.1, x.2.2.2.2.2.2.2.2.2.2.2.2.2.2.2.2.2.2.2.2.2.2.2.2.2.2.2.2.1, (), (), x.2.2.2.2.2.2.2.2.2.2.2.2.2.2.2.2.2.2.2.2.2.2.2.2.2.2.2.2.2.1, x.2.2.2.2.2.2.2.2.2.2.2.2.2.2.2.2.2.2.2.2.2.2.2.2.2.2.2.2.2.2.1, ()), x.2.2.2.2.2.2.2.2.2.2.2.2.2.2.2.2.2.2.2.2.2.2.2.2.2.2.2.2.2.2.2.1, x.2.2.2.2.2.2.2.2.2.2.2.2.2.2.2.2.2.2.2.2.2.2.2.2.2.2.2.2.2.2.2.2, ())) : ty_137_5))
abbrev fn_137_6 := (fun (d : ty_137_0) => ((d.1.1, d.1.2.1, d.1.2.2.2.2.2.2.2.1, d.2.1.1, d.2.1.2.1, d.2.1.2.2.1, d.2.1.2.2.2.1, d.2.1.2.2.2.2.1, d.2.1.2.2.2.2.2.1, d.2.1.2.2.2.2.2.2.1, d.2.1.2.2.2.2.2.2.2.1, d.2.1.2.2.2.2.2.2.2.2.1, d.2.2.1.1, d.2.2.1.2.1, d.2.2.1.2.2.1, d.2.2.1.2.2.2.1, d.2.2.1.2.2.2.2.1, d.2.2.1.2.2.2.2.2.1, d.2.2.2.1.1, d.2.2.2.1.2.2.2.2.1, d.2.2.2.1.2.2.2.2.2.1, d.2.2.2.1.2.2.2.2.2.2.1, d.2.2.2.1.2.2.2.2.2.2.2.2.2.2.1, d.2.2.2.1.2.2.2.2.2.2.2.2.2.2.2.1, d.2.2.2.2.1.1, d.2.2.2.2.1.2.2.2.2.1, d.2.2.2.2.1.2.2.2.2.2.1, d.2.2.2.2.1.2.2.2.2.2.2.1, d.2.2.2.2.1.2.2.2.2.2.2.2.2.2.2.1, d.2.2.2.2.1.2.2.2.2.2.2.2.2.2.2.2.1, d.2.2.2.2.2.1, d.2.2.2.2.2.2.1.1, d.2.2.2.2.2.2.1.2.1, d.2.2.2.2.2.2.1.2.2.2.2.1, d.2.2.2.2.2.2.1.2.2.2.2.2.1, d.2.2.2.2.2.2.2.1, d.2.2.2.2.2.2.2.2.1) : ty_137_6))
abbrev fn_137_7 := (fun (d : ty_137_2) => ((d.1.1, d.1.2.1, d.1.2.2.2.2.2.2.2.1, d.2.1.1, d.2.1.2.1, d.2.1.2.2.1, d.2.1.2.2.2.1, d.2.1.2.2.2.2.1, d.2.1.2.2.2.2.2.1, d.2.1.2.2.2.2.2.2.1, d.2.1.2.2.2.2.2.2.2.1, d.2.1.2.2.2.2.2.2.2.2.1, d.2.2.1.1, d.2.2.1.2.1, d.2.2.1.2.2.1, d.2.2.1.2.2.2.1, d.2.2.1.2.2.2.2.1, d.2.2.1.2.2.2.2.2.1, d.2.2.2.1.1, d.2.2.2.1.2.2.2.2.1, d.2.2.2.1.2.2.2.2.2.1, d.2.2.2.1.2.2.2.2.2.2.1, d.2.2.2.1.2.2.2.2.2.2.2.2.2.2.1, d.2.2.2.1.2.2.2.2.2.2.2.2.2.2.2.1, d.2.2.2.2.1.1, d.2.2.2.2.1.2.2.2.2.1, d.2.2.2.2.1.2.2.2.2.2.1, d.2.2.2.2.1.2.2.2.2.2.2.1, d.2.2.2.2.1.2.2.2.2.2.2.2.2.2.2.1, d.2.2.2.2.1.2.2.2.2.2.2.2.2.2.2.2.1, d.2.2.2.2.2.1.1, d.2.2.2.2.2.1.2.1, d.2.2.2.2.2.1.2.2.2.2.1, d.2.2.2.2.2.1.2.2.2.2.2.1, d.2.2.2.2.2.2.1, d.2.2.2.2.2.2.2.1) : ty_137_8))
def ash_ref13_lock : List Sh := [.dat (.int .i64), .dat tA, .dat tE, .dat (.sl tEn)]
def kp_ref13_lock_77_0 : Nat → List Nat := fun c => bif c.beq 0 then [0, 3, 5, 6, 8, 9, 10, 11] else [0, 3, 5, 6, 8, 9, 10]
def kp_ref13_lock_77_2 : Nat → List Nat := fun c => bif c.beq 0 then [0, 3, 5, 6, 8, 9, 10, 12] else [5, 6, 8, 9, 10]
noncomputable def sp_ref13_lock : Nat → Option (List AV → Prog AV)
  | 67 => some (con_ref3_Has)
  | 29 => some (con_ref12_Gained)
  | 15 => some (con_ref2_Join)
  | 114 => some (con_ref3_With)
  | _ => none
theorem hsp_ref13_lock : ∀ g p, sp_ref13_lock g = some p → SoundA Try.prog g p := by
  intro g p h
  unfold sp_ref13_lock at h
  split at h
  · cases h; exact snd_ref3_Has
  · cases h; exact snd_ref12_Gained
  · cases h; exact snd_ref2_Join
  · cases h; exact snd_ref3_With
  · cases h
noncomputable def cx_ref13_lock0 : Ctx := { tab := tab, spec := sp_ref13_lock, inl := inl, lps := fun _ _ => none, fuel := 40 }
theorem in_ref13_lock0 : InlOk Try.prog cx_ref13_lock0 := ⟨inl_ok, fun _ _ _ _ _ _ _ _ h => nomatch h⟩
theorem cal_ref13_lock0 (g : Nat) : SoundA Try.prog g (evF cx_ref13_lock0 keeps 8 g) := evF_sound (tabOk_of tab_ok) (cmpsOk_of tab_ok cmps_ok) mixed in_ref13_lock0 hsp_ref13_lock keeps 8 g
noncomputable def F_ref13_lock_77_0 (base : Nat) : Tm → Prog (Nat × Tm) := evC cx_ref13_lock0 (evF cx_ref13_lock0 keeps 8) ⟨77, 108, keeps 77, base⟩ 0 (bodyX 77 0)
def s_ref13_lock_77_0_1 : StS := ⟨[(0, .int .i64), (3, .sl tEn), (5, .ptr 0 0), (6, .ptr 1 0), (8, .ptr 2 0), (9, .ptr 3 0), (10, .ptr 5 0), (11, .int .i64)], [(0, .box [.int .i64, .int .i64, .int .i64, .int .i64, .int .i64, .int .i64, .int .i64, .int .i64, .int .i64]), (1, .box [.bool, .sl tI, .sl tI, .sl tI, .int .i64, .int .i64]), (2, .box [.bool, .nil, .nil, .nil, .int .i64, .int .i64, .bool, .nil, .nil, .nil, .int .i64, .int .i64, .nil, .nil, .nil]), (3, .box [.bool, .nil, .nil, .nil, .int .i64, .int .i64, .bool, .nil, .nil, .nil, .int .i64, .int .i64, .row 4, .nil, .nil]), (4, .row (.int .i64)), (5, .box [.bool, .sl tI, .row 6, .row 7, .int .i64, .int .i64]), (6, .row tI), (7, .row tI)], 8⟩
def x_ref13_lock_77_0_1_0 : StS := ⟨[(0, .int .i64), (3, .sl tEn), (5, .ptr 0 0), (6, .ptr 1 0), (8, .ptr 2 0), (9, .ptr 3 0), (10, .ptr 5 0)], [(0, .box [.int .i64, .int .i64, .int .i64, .int .i64, .int .i64, .int .i64, .int .i64, .int .i64, .int .i64]), (1, .box [.bool, .sl tI, .sl tI, .sl tI, .int .i64, .int .i64]), (2, .box [.bool, .nil, .nil, .nil, .int .i64, .int .i64, .bool, .nil, .nil, .nil, .int .i64, .int .i64, .nil, .nil, .nil]), (3, .box [.bool, .nil, .nil, .nil, .int .i64, .int .i64, .bool, .nil, .nil, .nil, .int .i64, .int .i64, .row 4, .nil, .nil]), (4, .row (.int .i64)), (5, .box [.bool, .sl tI, .row 6, .row 7, .int .i64, .int .i64]), (6, .row tI), (7, .row tI)], 8⟩
noncomputable def st_ref13_lock_77_0_1 (s0 : Int) (s3 : (List En)) (s11 : Int) (b0 : Int) (b0_1 : Int) (b0_2 : Int) (b0_3 : Int) (b0_4 : Int) (b0_5 : Int) (b0_6 : Int) (b0_7 : Int) (b0_8 : Int) (b1 : Bool) (b1_1 : (List I)) (b1_2 : (List I)) (b1_3 : (List I)) (b1_4 : Int) (b1_5 : Int) (b2 : Bool) (b2_1 : Int) (b2_2 : Int) (b2_3 : Bool) (b2_4 : Int) (b2_5 : Int) (b3 : Bool) (b3_1 : Int) (b3_2 : Int) (b3_3 : Bool) (b3_4 : Int) (b3_5 : Int) (b4 : (List Int)) (b5 : Bool) (b5_1 : (List I)) (b5_2 : Int) (b5_3 : Int) (b6 : (List I)) (b7 : (List I)) : Option (ty_137_6 ⊕ ty_137_7) :=
  bif decide (s11 < (↑b6.length : Int)) then
 bif decide (0 ≤ s11) then
 optC b6[s11.toNat]? none fun d42 ↦
 optC b6[s11.toNat]? none fun d43 ↦
 optC (G_ref12_Gained (s3, s0, false, s11, b1_4, b0_4, ())) none fun d44 ↦
 optC (G_ref2_Join (d43, d44, ())) none fun d45 ↦
 bif decide (0 ≤ s11) then
 optC b6[s11.toNat]? none fun d46 ↦
 optC b6[s11.toNat]? none fun d47 ↦
 some
 (Sum.inl
 (s0, s3, Go.IntKind.i64.wrap (s11 + 1), b0, b0_1, b0_2, b0_3, b0_4, b0_5, b0_6, b0_7, b0_8, b1, b1_1, b1_2, b1_3, b1_4, b1_5, b2, b2_1, b2_2, b2_3, b2_4, b2_5, b3, b3_1, b3_2,
 b3_3, b3_4, b3_5, b4, b5, b5_1, b5_2, b5_3, b6.set s11.toNat d45, b7))
 else none
 else none
 else
 some
 (Sum.inr
 (s0, s3, b0, b0_1, b0_2, b0_3, b0_4, b0_5, b0_6, b0_7, b0_8, b1, b1_1, b1_2, b1_3, b1_4, b1_5, b2, b2_1, b2_2, b2_3, b2_4, b2_5, b3, b3_1, b3_2, b3_3, b3_4, b3_5, b4, b5, b5_1, b5_2, b5_3, b6,
 b7))
theorem rn_ref13_lock_77_0_1 (s0 : Int) (s3 : (List En)) (s11 : Int) (b0 : Int) (b0_1 : Int) (b0_2 : Int) (b0_3 : Int) (b0_4 : Int) (b0_5 : Int) (b0_6 : Int) (b0_7 : Int) (b0_8 : Int) (b1 : Bool) (b1_1 : (List I)) (b1_2 : (List I)) (b1_3 : (List I)) (b1_4 : Int) (b1_5 : Int) (b2 : Bool) (b2_1 : Int) (b2_2 : Int) (b2_3 : Bool) (b2_4 : Int) (b2_5 : Int) (b3 : Bool) (b3_1 : Int) (b3_2 : Int) (b3_3 : Bool) (b3_4 : Int) (b3_5 : Int) (b4 : (List Int)) (b5 : Bool) (b5_1 : (List I)) (b5_2 : Int) (b5_3 : Int) (b6 : (List I)) (b7 : (List I)) : rdX cx_ref13_lock0 keeps 8 ⟨77, 108, keeps 77, 0⟩ 0 (bodyX 77 0) 0 kp_ref13_lock_77_0 (sT s_ref13_lock_77_0_1 ((s0, s3, (), (), (), (), (), s11, ()), ((b0, b0_1, b0_2, b0_3, b0_4, b0_5, b0_6, b0_7, b0_8, ()), (b1, b1_1, b1_2, b1_3, b1_4, b1_5, ()), (b2, (), (), (), b2_1, b2_2, b2_3, (), (), (), b2_4, b2_5, (), (), (), ()), (b3, (), (), (), b3_1, b3_2, b3_3, (), (), (), b3_4, b3_5, (), (), (), ()), b4, (b5, b5_1, (), (), b5_2, b5_3, ()), b6, b7, ()))) (sH s_ref13_lock_77_0_1 ((s0, s3, (), (), (), (), (), s11, ()), ((b0, b0_1, b0_2, b0_3, b0_4, b0_5, b0_6, b0_7, b0_8, ()), (b1, b1_1, b1_2, b1_3, b1_4, b1_5, ()), (b2, (), (), (), b2_1, b2_2, b2_3, (), (), (), b2_4, b2_5, (), (), (), ()), (b3, (), (), (), b3_1, b3_2, b3_3, (), (), (), b3_4, b3_5, (), (), (), ()), b4, (b5, b5_1, (), (), b5_2, b5_3, ()), b6, b7, ()))) (rdO (fun T h => (rdS s_ref13_lock_77_0_1 T h).map fn_137_6) (getE 2 x_ref13_lock_77_0_1_0 (fun (d : ty_137_1) => ((d.1.1, d.1.2.1, d.2.1.1, d.2.1.2.1, d.2.1.2.2.1, d.2.1.2.2.2.1, d.2.1.2.2.2.2.1, d.2.1.2.2.2.2.2.1, d.2.1.2.2.2.2.2.2.1, d.2.1.2.2.2.2.2.2.2.1, d.2.1.2.2.2.2.2.2.2.2.1, d.2.2.1.1, d.2.2.1.2.1, d.2.2.1.2.2.1, d.2.2.1.2.2.2.1, d.2.2.1.2.2.2.2.1, d.2.2.1.2.2.2.2.2.1, d.2.2.2.1.1, d.2.2.2.1.2.2.2.2.1, d.2.2.2.1.2.2.2.2.2.1, d.2.2.2.1.2.2.2.2.2.2.1, d.2.2.2.1.2.2.2.2.2.2.2.2.2.2.1, d.2.2.2.1.2.2.2.2.2.2.2.2.2.2.2.1, d.2.2.2.2.1.1, d.2.2.2.2.1.2.2.2.2.1, d.2.2.2.2.1.2.2.2.2.2.1, d.2.2.2.2.1.2.2.2.2.2.2.1, d.2.2.2.2.1.2.2.2.2.2.2.2.2.2.2.1, d.2.2.2.2.1.2.2.2.2.2.2.2.2.2.2.2.1, d.2.2.2.2.2.1, d.2.2.2.2.2.2.1.1, d.2.2.2.2.2.2.1.2.1, d.2.2.2.2.2.2.1.2.2.2.2.1, d.2.2.2.2.2.2.1.2.2.2.2.2.1, d.2.2.2.2.2.2.2.1, d.2.2.2.2.2.2.2.2.1) : ty_137_7)))) = st_ref13_lock_77_0_1 s0 s3 s11 b0 b0_1 b0_2 b0_3 b0_4 b0_5 b0_6 b0_7 b0_8 b1 b1_1 b1_2 b1_3 b1_4 b1_5 b2 b2_1 b2_2 b2_3 b2_4 b2_5 b3 b3_1 b3_2 b3_3 b3_4 b3_5 b4 b5 b5_1 b5_2 b5_3 b6 b7 := by kernel_rfl
noncomputable def L_ref13_lock_77_0_1 (x : ty_137_6) : Option ty_137_7 := iterO (fun x => st_ref13_lock_77_0_1 x.1 x.2.1 x.2.2.1 x.2.2.2.1 x.2.2.2.2.1 x.2.2.2.2.2.1 x.2.2.2.2.2.2.1 x.2.2.2.2.2.2.2.1 x.2.2.2.2.2.2.2.2.1 x.2.2.2.2.2.2.2.2.2.1 x.2.2.2.2.2.2.2.2.2.2.1 x.2.2.2.2.2.2.2.2.2.2.2.1 x.2.2.2.2.2.2.2.2.2.2.2.2.1 x.2.2.2.2.2.2.2.2.2.2.2.2.2.1 x.2.2.2.2.2.2.2.2.2.2.2.2.2.2.1 x.2.2.2.2.2.2.2.2.2.2.2.2.2.2.2.1 x.2.2.2.2.2.2.2.2.2.2.2.2.2.2.2.2.1 x.2.2.2.2.2.2.2.2.2.2.2.2.2.2.2.2.2.1 x.2.2.2.2.2.2.2.2.2.2.2.2.2.2.2.2.2.2.1 x.2.2.2.2.2.2.2.2.2.2.2.2.2.2.2.2.2.2.2.1 x.2.2.2.2.2.2.2.2.2.2.2.2.2.2.2.2.2.2.2.2.1 x.2.2.2.2.2.2.2.2.2.2.2.2.2.2.2.2.2.2.2.2.2.1 x.2.2.2.2.2.2.2.2.2.2.2.2.2.2.2.2.2.2.2.2.2.2.1 x.2.2.2.2.2.2.2.2.2.2.2.2.2.2.2.2.2.2.2.2.2.2.2.1 x.2.2.2.2.2.2.2.2.2.2.2.2.2.2.2.2.2.2.2.2.2.2.2.2.1 x.2.2.2.2.2.2.2.2.2.2.2.2.2.2.2.2.2.2.2.2.2.2.2.2.2.1 x.2.2.2.2.2.2.2.2.2.2.2.2.2.2.2.2.2.2.2.2.2.2.2.2.2.2.1 x.2.2.2.2.2.2.2.2.2.2.2.2.2.2.2.2.2.2.2.2.2.2.2.2.2.2.2.1 x.2.2.2.2.2.2.2.2.2.2.2.2.2.2.2.2.2.2.2.2.2.2.2.2.2.2.2.2.1 x.2.2.2.2.2.2.2.2.2.2.2.2.2.2.2.2.2.2.2.2.2.2.2.2.2.2.2.2.2.1 x.2.2.2.2.2.2.2.2.2.2.2.2.2.2.2.2.2.2.2.2.2.2.2.2.2.2.2.2.2.2.1 x.2.2.2.2.2.2.2.2.2.2.2.2.2.2.2.2.2.2.2.2.2.2.2.2.2.2.2.2.2.2.2.1 x.2.2.2.2.2.2.2.2.2.2.2.2.2.2.2.2.2.2.2.2.2.2.2.2.2.2.2.2.2.2.2.2.1 x.2.2.2.2.2.2.2.2.2.2.2.2.2.2.2.2.2.2.2.2.2.2.2.2.2.2.2.2.2.2.2.2.2.1 x.2.2.2.2.2.2.2.2.2.2.2.2.2.2.2.2.2.2.2.2.2.2.2.2.2.2.2.2.2.2.2.2.2.2.1 x.2.2.2.2.2.2.2.2.2.2.2.2.2.2.2.2.2.2.2.2.2.2.2.2.2.2.2.2.2.2.2.2.2.2.2.1 x.2.2.2.2.2.2.2.2.2.2.2.2.2.2.2.2.2.2.2.2.2.2.2.2.2.2.2.2.2.2.2.2.2.2.2.2) FUEL x
def s_ref13_lock_77_0_0 : StS := ⟨[(0, .int .i64), (3, .sl tEn), (5, .ptr 0 0), (6, .ptr 1 0), (8, .ptr 2 0), (9, .ptr 3 0), (10, .ptr 4 0), (11, .int .i64)], [(0, .box [.int .i64, .int .i64, .int .i64, .int .i64, .int .i64, .int .i64, .int .i64, .int .i64, .int .i64]), (1, .box [.bool, .sl tI, .sl tI, .sl tI, .int .i64, .int .i64]), (2, .box [.bool, .nil, .nil, .nil, .int .i64, .int .i64, .bool, .nil, .nil, .nil, .int .i64, .int .i64, .nil, .nil, .nil]), (3, .box [.bool, .nil, .nil, .nil, .int .i64, .int .i64, .bool, .nil, .nil, .nil, .int .i64, .int .i64, .nil, .nil, .nil]), (4, .box [.bool, .sl tI, .row 5, .row 6, .int .i64, .int .i64]), (5, .row tI), (6, .row tI)], 7⟩
def x_ref13_lock_77_0_0_0 : StS := ⟨[(0, .int .i64), (3, .sl tEn), (5, .ptr 0 0), (6, .ptr 1 0), (8, .ptr 2 0), (9, .ptr 3 0), (10, .ptr 4 0)], [(0, .box [.int .i64, .int .i64, .int .i64, .int .i64, .int .i64, .int .i64, .int .i64, .int .i64, .int .i64]), (1, .box [.bool, .sl tI, .sl tI, .sl tI, .int .i64, .int .i64]), (2, .box [.bool, .nil, .nil, .nil, .int .i64, .int .i64, .bool, .nil, .nil, .nil, .int .i64, .int .i64, .nil, .nil, .nil]), (3, .box [.bool, .nil, .nil, .nil, .int .i64, .int .i64, .bool, .nil, .nil, .nil, .int .i64, .int .i64, .nil, .nil, .nil]), (4, .box [.bool, .sl tI, .row 5, .row 6, .int .i64, .int .i64]), (5, .row tI), (6, .row tI)], 7⟩
noncomputable def st_ref13_lock_77_0_0 (s0 : Int) (s3 : (List En)) (s11 : Int) (b0 : Int) (b0_1 : Int) (b0_2 : Int) (b0_3 : Int) (b0_4 : Int) (b0_5 : Int) (b0_6 : Int) (b0_7 : Int) (b0_8 : Int) (b1 : Bool) (b1_1 : (List I)) (b1_2 : (List I)) (b1_3 : (List I)) (b1_4 : Int) (b1_5 : Int) (b2 : Bool) (b2_1 : Int) (b2_2 : Int) (b2_3 : Bool) (b2_4 : Int) (b2_5 : Int) (b3 : Bool) (b3_1 : Int) (b3_2 : Int) (b3_3 : Bool) (b3_4 : Int) (b3_5 : Int) (b4 : Bool) (b4_1 : (List I)) (b4_2 : Int) (b4_3 : Int) (b5 : (List I)) (b6 : (List I)) : Option (ty_137_8 ⊕ ty_137_9) :=
  bif decide (s11 < (↑b5.length : Int)) then
 bif decide (0 ≤ s11) then
 optC b5[s11.toNat]? none fun d41 ↦
 optC b5[s11.toNat]? none fun d42 ↦
 optC (G_ref12_Gained (s3, s0, false, s11, b1_4, b0_4, ())) none fun d43 ↦
 optC (G_ref2_Join (d42, d43, ())) none fun d44 ↦
 bif decide (0 ≤ s11) then
 optC b5[s11.toNat]? none fun d45 ↦
 optC b5[s11.toNat]? none fun d46 ↦
 some
 (Sum.inl
 (s0, s3, Go.IntKind.i64.wrap (s11 + 1), b0, b0_1, b0_2, b0_3, b0_4, b0_5, b0_6, b0_7, b0_8, b1, b1_1, b1_2, b1_3, b1_4, b1_5, b2, b2_1, b2_2, b2_3, b2_4, b2_5, b3, b3_1, b3_2,
 b3_3, b3_4, b3_5, b4, b4_1, b4_2, b4_3, b5.set s11.toNat d44, b6))
 else none
 else none
 else
 some
 (Sum.inr
 (s0, s3, b0, b0_1, b0_2, b0_3, b0_4, b0_5, b0_6, b0_7, b0_8, b1, b1_1, b1_2, b1_3, b1_4, b1_5, b2, b2_1, b2_2, b2_3, b2_4, b2_5, b3, b3_1, b3_2, b3_3, b3_4, b3_5, b4, b4_1, b4_2, b4_3, b5, b6))
theorem rn_ref13_lock_77_0_0 (s0 : Int) (s3 : (List En)) (s11 : Int) (b0 : Int) (b0_1 : Int) (b0_2 : Int) (b0_3 : Int) (b0_4 : Int) (b0_5 : Int) (b0_6 : Int) (b0_7 : Int) (b0_8 : Int) (b1 : Bool) (b1_1 : (List I)) (b1_2 : (List I)) (b1_3 : (List I)) (b1_4 : Int) (b1_5 : Int) (b2 : Bool) (b2_1 : Int) (b2_2 : Int) (b2_3 : Bool) (b2_4 : Int) (b2_5 : Int) (b3 : Bool) (b3_1 : Int) (b3_2 : Int) (b3_3 : Bool) (b3_4 : Int) (b3_5 : Int) (b4 : Bool) (b4_1 : (List I)) (b4_2 : Int) (b4_3 : Int) (b5 : (List I)) (b6 : (List I)) : rdX cx_ref13_lock0 keeps 8 ⟨77, 108, keeps 77, 0⟩ 0 (bodyX 77 0) 0 kp_ref13_lock_77_0 (sT s_ref13_lock_77_0_0 ((s0, s3, (), (), (), (), (), s11, ()), ((b0, b0_1, b0_2, b0_3, b0_4, b0_5, b0_6, b0_7, b0_8, ()), (b1, b1_1, b1_2, b1_3, b1_4, b1_5, ()), (b2, (), (), (), b2_1, b2_2, b2_3, (), (), (), b2_4, b2_5, (), (), (), ()), (b3, (), (), (), b3_1, b3_2, b3_3, (), (), (), b3_4, b3_5, (), (), (), ()), (b4, b4_1, (), (), b4_2, b4_3, ()), b5, b6, ()))) (sH s_ref13_lock_77_0_0 ((s0, s3, (), (), (), (), (), s11, ()), ((b0, b0_1, b0_2, b0_3, b0_4, b0_5, b0_6, b0_7, b0_8, ()), (b1, b1_1, b1_2, b1_3, b1_4, b1_5, ()), (b2, (), (), (), b2_1, b2_2, b2_3, (), (), (), b2_4, b2_5, (), (), (), ()), (b3, (), (), (), b3_1, b3_2, b3_3, (), (), (), b3_4, b3_5, (), (), (), ()), (b4, b4_1, (), (), b4_2, b4_3, ()), b5, b6, ()))) (rdO (fun T h => (rdS s_ref13_lock_77_0_0 T h).map fn_137_7) (getE 2 x_ref13_lock_77_0_0_0 (fun (d : ty_137_3) => ((d.1.1, d.1.2.1, d.2.1.1, d.2.1.2.1, d.2.1.2.2.1, d.2.1.2.2.2.1, d.2.1.2.2.2.2.1, d.2.1.2.2.2.2.2.1, d.2.1.2.2.2.2.2.2.1, d.2.1.2.2.2.2.2.2.2.1, d.2.1.2.2.2.2.2.2.2.2.1, d.2.2.1.1, d.2.2.1.2.1, d.2.2.1.2.2.1, d.2.2.1.2.2.2.1, d.2.2.1.2.2.2.2.1, d.2.2.1.2.2.2.2.2.1, d.2.2.2.1.1, d.2.2.2.1.2.2.2.2.1, d.2.2.2.1.2.2.2.2.2.1, d.2.2.2.1.2.2.2.2.2.2.1, d.2.2.2.1.2.2.2.2.2.2.2.2.2.2.1, d.2.2.2.1.2.2.2.2.2.2.2.2.2.2.2.1, d.2.2.2.2.1.1, d.2.2.2.2.1.2.2.2.2.1, d.2.2.2.2.1.2.2.2.2.2.1, d.2.2.2.2.1.2.2.2.2.2.2.1, d.2.2.2.2.1.2.2.2.2.2.2.2.2.2.2.1, d.2.2.2.2.1.2.2.2.2.2.2.2.2.2.2.2.1, d.2.2.2.2.2.1.1, d.2.2.2.2.2.1.2.1, d.2.2.2.2.2.1.2.2.2.2.1, d.2.2.2.2.2.1.2.2.2.2.2.1, d.2.2.2.2.2.2.1, d.2.2.2.2.2.2.2.1) : ty_137_9)))) = st_ref13_lock_77_0_0 s0 s3 s11 b0 b0_1 b0_2 b0_3 b0_4 b0_5 b0_6 b0_7 b0_8 b1 b1_1 b1_2 b1_3 b1_4 b1_5 b2 b2_1 b2_2 b2_3 b2_4 b2_5 b3 b3_1 b3_2 b3_3 b3_4 b3_5 b4 b4_1 b4_2 b4_3 b5 b6 := by kernel_rfl
noncomputable def L_ref13_lock_77_0_0 (x : ty_137_8) : Option ty_137_9 := iterO (fun x => st_ref13_lock_77_0_0 x.1 x.2.1 x.2.2.1 x.2.2.2.1 x.2.2.2.2.1 x.2.2.2.2.2.1 x.2.2.2.2.2.2.1 x.2.2.2.2.2.2.2.1 x.2.2.2.2.2.2.2.2.1 x.2.2.2.2.2.2.2.2.2.1 x.2.2.2.2.2.2.2.2.2.2.1 x.2.2.2.2.2.2.2.2.2.2.2.1 x.2.2.2.2.2.2.2.2.2.2.2.2.1 x.2.2.2.2.2.2.2.2.2.2.2.2.2.1 x.2.2.2.2.2.2.2.2.2.2.2.2.2.2.1 x.2.2.2.2.2.2.2.2.2.2.2.2.2.2.2.1 x.2.2.2.2.2.2.2.2.2.2.2.2.2.2.2.2.1 x.2.2.2.2.2.2.2.2.2.2.2.2.2.2.2.2.2.1 x.2.2.2.2.2.2.2.2.2.2.2.2.2.2.2.2.2.2.1 x.2.2.2.2.2.2.2.2.2.2.2.2.2.2.2.2.2.2.2.1 x.2.2.2.2.2.2.2.2.2.2.2.2.2.2.2.2.2.2.2.2.1 x.2.2.2.2.2.2.2.2.2.2.2.2.2.2.2.2.2.2.2.2.2.1 x.2.2.2.2.2.2.2.2.2.2.2.2.2.2.2.2.2.2.2.2.2.2.1 x.2.2.2.2.2.2.2.2.2.2.2.2.2.2.2.2.2.2.2.2.2.2.2.1 x.2.2.2.2.2.2.2.2.2.2.2.2.2.2.2.2.2.2.2.2.2.2.2.2.1 x.2.2.2.2.2.2.2.2.2.2.2.2.2.2.2.2.2.2.2.2.2.2.2.2.2.1 x.2.2.2.2.2.2.2.2.2.2.2.2.2.2.2.2.2.2.2.2.2.2.2.2.2.2.1 x.2.2.2.2.2.2.2.2.2.2.2.2.2.2.2.2.2.2.2.2.2.2.2.2.2.2.2.1 x.2.2.2.2.2.2.2.2.2.2.2.2.2.2.2.2.2.2.2.2.2.2.2.2.2.2.2.2.1 x.2.2.2.2.2.2.2.2.2.2.2.2.2.2.2.2.2.2.2.2.2.2.2.2.2.2.2.2.2.1 x.2.2.2.2.2.2.2.2.2.2.2.2.2.2.2.2.2.2.2.2.2.2.2.2.2.2.2.2.2.2.1 x.2.2.2.2.2.2.2.2.2.2.2.2.2.2.2.2.2.2.2.2.2.2.2.2.2.2.2.2.2.2.2.1 x.2.2.2.2.2.2.2.2.2.2.2.2.2.2.2.2.2.2.2.2.2.2.2.2.2.2.2.2.2.2.2.2.1 x.2.2.2.2.2.2.2.2.2.2.2.2.2.2.2.2.2.2.2.2.2.2.2.2.2.2.2.2.2.2.2.2.2.1 x.2.2.2.2.2.2.2.2.2.2.2.2.2.2.2.2.2.2.2.2.2.2.2.2.2.2.2.2.2.2.2.2.2.2.1 x.2.2.2.2.2.2.2.2.2.2.2.2.2.2.2.2.2.2.2.2.2.2.2.2.2.2.2.2.2.2.2.2.2.2.2) FUEL x
noncomputable def q_ref13_lock_77_0 : Nat → Tm → Prog (Nat × Tm) := (varP 0 (fun T h => (rdS s_ref13_lock_77_0_0 T h).map fn_137_7) L_ref13_lock_77_0_0 (altE 2 x_ref13_lock_77_0_0_0 fn_137_3) (varP 0 (fun T h => (rdS s_ref13_lock_77_0_1 T h).map fn_137_6) L_ref13_lock_77_0_1 (altE 2 x_ref13_lock_77_0_1_0 fn_137_1) (fun _ _ => .fail)))
theorem ok_ref13_lock_77_0 : VarOk kp_ref13_lock_77_0 F_ref13_lock_77_0 q_ref13_lock_77_0 := (varX_ok (s := s_ref13_lock_77_0_0) (un := fn_137_2) (by rfl) (fun _ => rfl) (getE_ok (s := x_ref13_lock_77_0_0_0) (un := fn_137_3) (by rfl) (fun _ => rfl)) (step := fun x => st_ref13_lock_77_0_0 x.1 x.2.1 x.2.2.1 x.2.2.2.1 x.2.2.2.2.1 x.2.2.2.2.2.1 x.2.2.2.2.2.2.1 x.2.2.2.2.2.2.2.1 x.2.2.2.2.2.2.2.2.1 x.2.2.2.2.2.2.2.2.2.1 x.2.2.2.2.2.2.2.2.2.2.1 x.2.2.2.2.2.2.2.2.2.2.2.1 x.2.2.2.2.2.2.2.2.2.2.2.2.1 x.2.2.2.2.2.2.2.2.2.2.2.2.2.1 x.2.2.2.2.2.2.2.2.2.2.2.2.2.2.1 x.2.2.2.2.2.2.2.2.2.2.2.2.2.2.2.1 x.2.2.2.2.2.2.2.2.2.2.2.2.2.2.2.2.1 x.2.2.2.2.2.2.2.2.2.2.2.2.2.2.2.2.2.1 x.2.2.2.2.2.2.2.2.2.2.2.2.2.2.2.2.2.2.1 x.2.2.2.2.2.2.2.2.2.2.2.2.2.2.2.2.2.2.2.1 x.2.2.2.2.2.2.2.2.2.2.2.2.2.2.2.2.2.2.2.2.1 x.2.2.2.2.2.2.2.2.2.2.2.2.2.2.2.2.2.2.2.2.2.1 x.2.2.2.2.2.2.2.2.2.2.2.2.2.2.2.2.2.2.2.2.2.2.1 x.2.2.2.2.2.2.2.2.2.2.2.2.2.2.2.2.2.2.2.2.2.2.2.1 x.2.2.2.2.2.2.2.2.2.2.2.2.2.2.2.2.2.2.2.2.2.2.2.2.1 x.2.2.2.2.2.2.2.2.2.2.2.2.2.2.2.2.2.2.2.2.2.2.2.2.2.1 x.2.2.2.2.2.2.2.2.2.2.2.2.2.2.2.2.2.2.2.2.2.2.2.2.2.2.1 x.2.2.2.2.2.2.2.2.2.2.2.2.2.2.2.2.2.2.2.2.2.2.2.2.2.2.2.1 x.2.2.2.2.2.2.2.2.2.2.2.2.2.2.2.2.2.2.2.2.2.2.2.2.2.2.2.2.1 x.2.2.2.2.2.2.2.2.2.2.2.2.2.2.2.2.2.2.2.2.2.2.2.2.2.2.2.2.2.1 x.2.2.2.2.2.2.2.2.2.2.2.2.2.2.2.2.2.2.2.2.2.2.2.2.2.2.2.2.2.2.1 x.2.2.2.2.2.2.2.2.2.2.2.2.2.2.2.2.2.2.2.2.2.2.2.2.2.2.2.2.2.2.2.1 x.2.2.2.2.2.2.2.2.2.2.2.2.2.2.2.2.2.2.2.2.2.2.2.2.2.2.2.2.2.2.2.2.1 x.2.2.2.2.2.2.2.2.2.2.2.2.2.2.2.2.2.2.2.2.2.2.2.2.2.2.2.2.2.2.2.2.2.1 x.2.2.2.2.2.2.2.2.2.2.2.2.2.2.2.2.2.2.2.2.2.2.2.2.2.2.2.2.2.2.2.2.2.2.1 x.2.2.2.2.2.2.2.2.2.2.2.2.2.2.2.2.2.2.2.2.2.2.2.2.2.2.2.2.2.2.2.2.2.2.2) (fun x => rn_ref13_lock_77_0_0 x.1 x.2.1 x.2.2.1 x.2.2.2.1 x.2.2.2.2.1 x.2.2.2.2.2.1 x.2.2.2.2.2.2.1 x.2.2.2.2.2.2.2.1 x.2.2.2.2.2.2.2.2.1 x.2.2.2.2.2.2.2.2.2.1 x.2.2.2.2.2.2.2.2.2.2.1 x.2.2.2.2.2.2.2.2.2.2.2.1 x.2.2.2.2.2.2.2.2.2.2.2.2.1 x.2.2.2.2.2.2.2.2.2.2.2.2.2.1 x.2.2.2.2.2.2.2.2.2.2.2.2.2.2.1 x.2.2.2.2.2.2.2.2.2.2.2.2.2.2.2.1 x.2.2.2.2.2.2.2.2.2.2.2.2.2.2.2.2.1 x.2.2.2.2.2.2.2.2.2.2.2.2.2.2.2.2.2.1 x.2.2.2.2.2.2.2.2.2.2.2.2.2.2.2.2.2.2.1 x.2.2.2.2.2.2.2.2.2.2.2.2.2.2.2.2.2.2.2.1 x.2.2.2.2.2.2.2.2.2.2.2.2.2.2.2.2.2.2.2.2.1 x.2.2.2.2.2.2.2.2.2.2.2.2.2.2.2.2.2.2.2.2.2.1 x.2.2.2.2.2.2.2.2.2.2.2.2.2.2.2.2.2.2.2.2.2.2.1 x.2.2.2.2.2.2.2.2.2.2.2.2.2.2.2.2.2.2.2.2.2.2.2.1 x.2.2.2.2.2.2.2.2.2.2.2.2.2.2.2.2.2.2.2.2.2.2.2.2.1 x.2.2.2.2.2.2.2.2.2.2.2.2.2.2.2.2.2.2.2.2.2.2.2.2.2.1 x.2.2.2.2.2.2.2.2.2.2.2.2.2.2.2.2.2.2.2.2.2.2.2.2.2.2.1 x.2.2.2.2.2.2.2.2.2.2.2.2.2.2.2.2.2.2.2.2.2.2.2.2.2.2.2.1 x.2.2.2.2.2.2.2.2.2.2.2.2.2.2.2.2.2.2.2.2.2.2.2.2.2.2.2.2.1 x.2.2.2.2.2.2.2.2.2.2.2.2.2.2.2.2.2.2.2.2.2.2.2.2.2.2.2.2.2.1 x.2.2.2.2.2.2.2.2.2.2.2.2.2.2.2.2.2.2.2.2.2.2.2.2.2.2.2.2.2.2.1 x.2.2.2.2.2.2.2.2.2.2.2.2.2.2.2.2.2.2.2.2.2.2.2.2.2.2.2.2.2.2.2.1 x.2.2.2.2.2.2.2.2.2.2.2.2.2.2.2.2.2.2.2.2.2.2.2.2.2.2.2.2.2.2.2.2.1 x.2.2.2.2.2.2.2.2.2.2.2.2.2.2.2.2.2.2.2.2.2.2.2.2.2.2.2.2.2.2.2.2.2.1 x.2.2.2.2.2.2.2.2.2.2.2.2.2.2.2.2.2.2.2.2.2.2.2.2.2.2.2.2.2.2.2.2.2.2.1 x.2.2.2.2.2.2.2.2.2.2.2.2.2.2.2.2.2.2.2.2.2.2.2.2.2.2.2.2.2.2.2.2.2.2.2) (fun _ _ e => ⟨_, e⟩) (altE_ok 2 x_ref13_lock_77_0_0_0 fn_137_3) (varX_ok (s := s_ref13_lock_77_0_1) (un := fn_137_0) (by rfl) (fun _ => rfl) (getE_ok (s := x_ref13_lock_77_0_1_0) (un := fn_137_1) (by rfl) (fun _ => rfl)) (step := fun x => st_ref13_lock_77_0_1 x.1 x.2.1 x.2.2.1 x.2.2.2.1 x.2.2.2.2.1 x.2.2.2.2.2.1 x.2.2.2.2.2.2.1 x.2.2.2.2.2.2.2.1 x.2.2.2.2.2.2.2.2.1 x.2.2.2.2.2.2.2.2.2.1 x.2.2.2.2.2.2.2.2.2.2.1 x.2.2.2.2.2.2.2.2.2.2.2.1 x.2.2.2.2.2.2.2.2.2.2.2.2.1 x.2.2.2.2.2.2.2.2.2.2.2.2.2.1 x.2.2.2.2.2.2.2.2.2.2.2.2.2.2.1 x.2.2.2.2.2.2.2.2.2.2.2.2.2.2.2.1 x.2.2.2.2.2.2.2.2.2.2.2.2.2.2.2.2.1 x.2.2.2.2.2.2.2.2.2.2.2.2.2.2.2.2.2.1 x.2.2.2.2.2.2.2.2.2.2.2.2.2.2.2.2.2.2.1 x.2.2.2.2.2.2.2.2.2.2.2.2.2.2.2.2.2.2.2.1 x.2.2.2.2.2.2.2.2.2.2.2.2.2.2.2.2.2.2.2.2.1 x.2.2.2.2.2.2.2.2.2.2.2.2.2.2.2.2.2.2.2.2.2.1 x.2.2.2.2.2.2.2.2.2.2.2.2.2.2.2.2.2.2.2.2.2.2.1 x.2.2.2.2.2.2.2.2.2.2.2.2.2.2.2.2.2.2.2.2.2.2.2.1 x.2.2.2.2.2.2.2.2.2.2.2.2.2.2.2.2.2.2.2.2.2.2.2.2.1 x.2.2.2.2.2.2.2.2.2.2.2.2.2.2.2.2.2.2.2.2.2.2.2.2.2.1 x.2.2.2.2.2.2.2.2.2.2.2.2.2.2.2.2.2.2.2.2.2.2.2.2.2.2.1 x.2.2.2.2.2.2.2.2.2.2.2.2.2.2.2.2.2.2.2.2.2.2.2.2.2.2.2.1 x.2.2.2.2.2.2.2.2.2.2.2.2.2.2.2.2.2.2.2.2.2.2.2.2.2.2.2.2.1 x.2.2.2.2.2.2.2.2.2.2.2.2.2.2.2.2.2.2.2.2.2.2.2.2.2.2.2.2.2.1 x.2.2.2.2.2.2.2.2.2.2.2.2.2.2.2.2.2.2.2.2.2.2.2.2.2.2.2.2.2.2.1 x.2.2.2.2.2.2.2.2.2.2.2.2.2.2.2.2.2.2.2.2.2.2.2.2.2.2.2.2.2.2.2.1 x.2.2.2.2.2.2.2.2.2.2.2.2.2.2.2.2.2.2.2.2.2.2.2.2.2.2.2.2.2.2.2.2.1 x.2.2.2.2.2.2.2.2.2.2.2.2.2.2.2.2.2.2.2.2.2.2.2.2.2.2.2.2.2.2.2.2.2.1 x.2.2.2.2.2.2.2.2.2.2.2.2.2.2.2.2.2.2.2.2.2.2.2.2.2.2.2.2.2.2.2.2.2.2.1 x.2.2.2.2.2.2.2.2.2.2.2.2.2.2.2.2.2.2.2.2.2.2.2.2.2.2.2.2.2.2.2.2.2.2.2.1 x.2.2.2.2.2.2.2.2.2.2.2.2.2.2.2.2.2.2.2.2.2.2.2.2.2.2.2.2.2.2.2.2.2.2.2.2) (fun x => rn_ref13_lock_77_0_1 x.1 x.2.1 x.2.2.1 x.2.2.2.1 x.2.2.2.2.1 x.2.2.2.2.2.1 x.2.2.2.2.2.2.1 x.2.2.2.2.2.2.2.1 x.2.2.2.2.2.2.2.2.1 x.2.2.2.2.2.2.2.2.2.1 x.2.2.2.2.2.2.2.2.2.2.1 x.2.2.2.2.2.2.2.2.2.2.2.1 x.2.2.2.2.2.2.2.2.2.2.2.2.1 x.2.2.2.2.2.2.2.2.2.2.2.2.2.1 x.2.2.2.2.2.2.2.2.2.2.2.2.2.2.1 x.2.2.2.2.2.2.2.2.2.2.2.2.2.2.2.1 x.2.2.2.2.2.2.2.2.2.2.2.2.2.2.2.2.1 x.2.2.2.2.2.2.2.2.2.2.2.2.2.2.2.2.2.1 x.2.2.2.2.2.2.2.2.2.2.2.2.2.2.2.2.2.2.1 x.2.2.2.2.2.2.2.2.2.2.2.2.2.2.2.2.2.2.2.1 x.2.2.2.2.2.2.2.2.2.2.2.2.2.2.2.2.2.2.2.2.1 x.2.2.2.2.2.2.2.2.2.2.2.2.2.2.2.2.2.2.2.2.2.1 x.2.2.2.2.2.2.2.2.2.2.2.2.2.2.2.2.2.2.2.2.2.2.1 x.2.2.2.2.2.2.2.2.2.2.2.2.2.2.2.2.2.2.2.2.2.2.2.1 x.2.2.2.2.2.2.2.2.2.2.2.2.2.2.2.2.2.2.2.2.2.2.2.2.1 x.2.2.2.2.2.2.2.2.2.2.2.2.2.2.2.2.2.2.2.2.2.2.2.2.2.1 x.2.2.2.2.2.2.2.2.2.2.2.2.2.2.2.2.2.2.2.2.2.2.2.2.2.2.1 x.2.2.2.2.2.2.2.2.2.2.2.2.2.2.2.2.2.2.2.2.2.2.2.2.2.2.2.1 x.2.2.2.2.2.2.2.2.2.2.2.2.2.2.2.2.2.2.2.2.2.2.2.2.2.2.2.2.1 x.2.2.2.2.2.2.2.2.2.2.2.2.2.2.2.2.2.2.2.2.2.2.2.2.2.2.2.2.2.1 x.2.2.2.2.2.2.2.2.2.2.2.2.2.2.2.2.2.2.2.2.2.2.2.2.2.2.2.2.2.2.1 x.2.2.2.2.2.2.2.2.2.2.2.2.2.2.2.2.2.2.2.2.2.2.2.2.2.2.2.2.2.2.2.1 x.2.2.2.2.2.2.2.2.2.2.2.2.2.2.2.2.2.2.2.2.2.2.2.2.2.2.2.2.2.2.2.2.1 x.2.2.2.2.2.2.2.2.2.2.2.2.2.2.2.2.2.2.2.2.2.2.2.2.2.2.2.2.2.2.2.2.2.1 x.2.2.2.2.2.2.2.2.2.2.2.2.2.2.2.2.2.2.2.2.2.2.2.2.2.2.2.2.2.2.2.2.2.2.1 x.2.2.2.2.2.2.2.2.2.2.2.2.2.2.2.2.2.2.2.2.2.2.2.2.2.2.2.2.2.2.2.2.2.2.2.1 x.2.2.2.2.2.2.2.2.2.2.2.2.2.2.2.2.2.2.2.2.2.2.2.2.2.2.2.2.2.2.2.2.2.2.2.2) (fun _ _ e => ⟨_, e⟩) (altE_ok 2 x_ref13_lock_77_0_1_0 fn_137_1) (VarOk.fail _ _)))
noncomputable def lpI_ref13_lock_77_0 (base : Nat) (T : Tm) : Prog (Nat × Tm) := .norm base (kp_ref13_lock_77_0 0) T (q_ref13_lock_77_0 base)
theorem sndI_ref13_lock_77_0 : SoundC Try.prog 108 (.loop (bodyX 77 0)) lpI_ref13_lock_77_0 := loopK_sound (cx := cx_ref13_lock0) (cal := evF cx_ref13_lock0 keeps 8) (kp := keeps 77) (tabOk_of tab_ok) (cmpsOk_of tab_ok cmps_ok) cal_ref13_lock0 mixed (hl_of (g := 77) (b := 0) in_ref13_lock0 (by kernel_rfl) (by kernel_rfl)) ok_ref13_lock_77_0
noncomputable def lpL_ref13_lock_77_0 : Nat → Tm → Prog (Nat × Tm) := lpI_ref13_lock_77_0
theorem sndL_ref13_lock_77_0 : SoundC Try.prog 108 (.loop (bodyX 77 0)) lpL_ref13_lock_77_0 := sndI_ref13_lock_77_0
noncomputable def lp_ref13_lock1 : Nat → Nat → Option (Nat → Tm → Prog (Nat × Tm))
  | 77, 0 => some lpL_ref13_lock_77_0
  | _, _ => none
noncomputable def cx_ref13_lock1 : Ctx := { tab := tab, spec := sp_ref13_lock, inl := inl, lps := lp_ref13_lock1, fuel := 40 }
theorem in_ref13_lock1 : InlOk Try.prog cx_ref13_lock1 := ⟨inl_ok, fun g fn c hg hb q hq p hp => by
  change lp_ref13_lock1 g q.1 = some p at hp
  change inl g = some fn at hg
  generalize hq1 : q.1 = b at hp
  unfold lp_ref13_lock1 at hp
  split at hp
  · cases hp; exact lps_case (inl := inl) hg hb hq hq1 (by kernel_rfl) (by kernel_rfl) sndL_ref13_lock_77_0
  · cases hp⟩
theorem cal_ref13_lock1 (g : Nat) : SoundA Try.prog g (evF cx_ref13_lock1 keeps 8 g) := evF_sound (tabOk_of tab_ok) (cmpsOk_of tab_ok cmps_ok) mixed in_ref13_lock1 hsp_ref13_lock keeps 8 g
noncomputable def F_ref13_lock_77_2 (base : Nat) : Tm → Prog (Nat × Tm) := evC cx_ref13_lock1 (evF cx_ref13_lock1 keeps 8) ⟨77, 108, keeps 77, base⟩ 2 (bodyX 77 2)
def s_ref13_lock_77_2_1 : StS := ⟨[(0, .int .i64), (3, .sl tEn), (5, .ptr 0 0), (6, .ptr 1 0), (8, .ptr 2 0), (9, .ptr 3 0), (10, .ptr 5 0), (12, .int .i64)], [(0, .box [.int .i64, .int .i64, .int .i64, .int .i64, .int .i64, .int .i64, .int .i64, .int .i64, .int .i64]), (1, .box [.bool, .sl tI, .sl tI, .sl tI, .int .i64, .int .i64]), (2, .box [.bool, .nil, .nil, .nil, .int .i64, .int .i64, .bool, .nil, .nil, .nil, .int .i64, .int .i64, .nil, .nil, .nil]), (3, .box [.bool, .nil, .nil, .nil, .int .i64, .int .i64, .bool, .nil, .nil, .nil, .int .i64, .int .i64, .row 4, .nil, .nil]), (4, .row (.int .i64)), (5, .box [.bool, .sl tI, .row 6, .row 7, .int .i64, .int .i64]), (6, .row tI), (7, .row tI)], 8⟩
def x_ref13_lock_77_2_1_0 : StS := ⟨[(5, .ptr 0 0), (6, .ptr 1 0), (8, .ptr 2 0), (9, .ptr 3 0), (10, .ptr 5 0)], [(0, .box [.int .i64, .int .i64, .int .i64, .int .i64, .int .i64, .int .i64, .int .i64, .int .i64, .int .i64]), (1, .box [.bool, .sl tI, .sl tI, .sl tI, .int .i64, .int .i64]), (2, .box [.bool, .nil, .nil, .nil, .int .i64, .int .i64, .bool, .nil, .nil, .nil, .int .i64, .int .i64, .nil, .nil, .nil]), (3, .box [.bool, .nil, .nil, .nil, .int .i64, .int .i64, .bool, .nil, .nil, .nil, .int .i64, .int .i64, .row 4, .nil, .nil]), (4, .row (.int .i64)), (5, .box [.bool, .sl tI, .row 6, .row 7, .int .i64, .int .i64]), (6, .row tI), (7, .row tI)], 8⟩
noncomputable def st_ref13_lock_77_2_1 (s0 : Int) (s3 : (List En)) (s12 : Int) (b0 : Int) (b0_1 : Int) (b0_2 : Int) (b0_3 : Int) (b0_4 : Int) (b0_5 : Int) (b0_6 : Int) (b0_7 : Int) (b0_8 : Int) (b1 : Bool) (b1_1 : (List I)) (b1_2 : (List I)) (b1_3 : (List I)) (b1_4 : Int) (b1_5 : Int) (b2 : Bool) (b2_1 : Int) (b2_2 : Int) (b2_3 : Bool) (b2_4 : Int) (b2_5 : Int) (b3 : Bool) (b3_1 : Int) (b3_2 : Int) (b3_3 : Bool) (b3_4 : Int) (b3_5 : Int) (b4 : (List Int)) (b5 : Bool) (b5_1 : (List I)) (b5_2 : Int) (b5_3 : Int) (b6 : (List I)) (b7 : (List I)) : Option (ty_137_6 ⊕ ty_137_10) :=
  bif decide (s12 < (↑b7.length : Int)) then
 bif decide (0 ≤ s12) then
 optC b7[s12.toNat]? none fun d42 ↦
 optC b7[s12.toNat]? none fun d43 ↦
 optC (G_ref12_Gained (s3, s0, true, s12, b1_4, b0_4, ())) none fun d44 ↦
 optC (G_ref2_Join (d43, d44, ())) none fun d45 ↦
 bif decide (0 ≤ s12) then
 optC b7[s12.toNat]? none fun d46 ↦
 optC b7[s12.toNat]? none fun d47 ↦
 some
 (Sum.inl
 (s0, s3, Go.IntKind.i64.wrap (s12 + 1), b0, b0_1, b0_2, b0_3, b0_4, b0_5, b0_6, b0_7, b0_8, b1, b1_1, b1_2, b1_3, b1_4, b1_5, b2, b2_1, b2_2, b2_3, b2_4, b2_5, b3, b3_1, b3_2,
 b3_3, b3_4, b3_5, b4, b5, b5_1, b5_2, b5_3, b6, b7.set s12.toNat d45))
 else none
 else none
 else
 some
 (Sum.inr
 (b0, b0_1, b0_2, b0_3, b0_4, b0_5, b0_6, b0_7, b0_8, b1, b1_1, b1_2, b1_3, b1_4, b1_5, b2, b2_1, b2_2, b2_3, b2_4, b2_5, b3, b3_1, b3_2, b3_3, b3_4, b3_5, b4, b5, b5_1, b5_2, b5_3, b6, b7))
theorem rn_ref13_lock_77_2_1 (s0 : Int) (s3 : (List En)) (s12 : Int) (b0 : Int) (b0_1 : Int) (b0_2 : Int) (b0_3 : Int) (b0_4 : Int) (b0_5 : Int) (b0_6 : Int) (b0_7 : Int) (b0_8 : Int) (b1 : Bool) (b1_1 : (List I)) (b1_2 : (List I)) (b1_3 : (List I)) (b1_4 : Int) (b1_5 : Int) (b2 : Bool) (b2_1 : Int) (b2_2 : Int) (b2_3 : Bool) (b2_4 : Int) (b2_5 : Int) (b3 : Bool) (b3_1 : Int) (b3_2 : Int) (b3_3 : Bool) (b3_4 : Int) (b3_5 : Int) (b4 : (List Int)) (b5 : Bool) (b5_1 : (List I)) (b5_2 : Int) (b5_3 : Int) (b6 : (List I)) (b7 : (List I)) : rdX cx_ref13_lock1 keeps 8 ⟨77, 108, keeps 77, 0⟩ 2 (bodyX 77 2) 0 kp_ref13_lock_77_2 (sT s_ref13_lock_77_2_1 ((s0, s3, (), (), (), (), (), s12, ()), ((b0, b0_1, b0_2, b0_3, b0_4, b0_5, b0_6, b0_7, b0_8, ()), (b1, b1_1, b1_2, b1_3, b1_4, b1_5, ()), (b2, (), (), (), b2_1, b2_2, b2_3, (), (), (), b2_4, b2_5, (), (), (), ()), (b3, (), (), (), b3_1, b3_2, b3_3, (), (), (), b3_4, b3_5, (), (), (), ()), b4, (b5, b5_1, (), (), b5_2, b5_3, ()), b6, b7, ()))) (sH s_ref13_lock_77_2_1 ((s0, s3, (), (), (), (), (), s12, ()), ((b0, b0_1, b0_2, b0_3, b0_4, b0_5, b0_6, b0_7, b0_8, ()), (b1, b1_1, b1_2, b1_3, b1_4, b1_5, ()), (b2, (), (), (), b2_1, b2_2, b2_3, (), (), (), b2_4, b2_5, (), (), (), ()), (b3, (), (), (), b3_1, b3_2, b3_3, (), (), (), b3_4, b3_5, (), (), (), ()), b4, (b5, b5_1, (), (), b5_2, b5_3, ()), b6, b7, ()))) (rdO (fun T h => (rdS s_ref13_lock_77_2_1 T h).map fn_137_6) (getE 4 x_ref13_lock_77_2_1_0 (fun (d : ty_137_4) => ((d.2.1.1, d.2.1.2.1, d.2.1.2.2.1, d.2.1.2.2.2.1, d.2.1.2.2.2.2.1, d.2.1.2.2.2.2.2.1, d.2.1.2.2.2.2.2.2.1, d.2.1.2.2.2.2.2.2.2.1, d.2.1.2.2.2.2.2.2.2.2.1, d.2.2.1.1, d.2.2.1.2.1, d.2.2.1.2.2.1, d.2.2.1.2.2.2.1, d.2.2.1.2.2.2.2.1, d.2.2.1.2.2.2.2.2.1, d.2.2.2.1.1, d.2.2.2.1.2.2.2.2.1, d.2.2.2.1.2.2.2.2.2.1, d.2.2.2.1.2.2.2.2.2.2.1, d.2.2.2.1.2.2.2.2.2.2.2.2.2.2.1, d.2.2.2.1.2.2.2.2.2.2.2.2.2.2.2.1, d.2.2.2.2.1.1, d.2.2.2.2.1.2.2.2.2.1, d.2.2.2.2.1.2.2.2.2.2.1, d.2.2.2.2.1.2.2.2.2.2.2.1, d.2.2.2.2.1.2.2.2.2.2.2.2.2.2.2.1, d.2.2.2.2.1.2.2.2.2.2.2.2.2.2.2.2.1, d.2.2.2.2.2.1, d.2.2.2.2.2.2.1.1, d.2.2.2.2.2.2.1.2.1, d.2.2.2.2.2.2.1.2.2.2.2.1, d.2.2.2.2.2.2.1.2.2.2.2.2.1, d.2.2.2.2.2.2.2.1, d.2.2.2.2.2.2.2.2.1) : ty_137_10)))) = st_ref13_lock_77_2_1 s0 s3 s12 b0 b0_1 b0_2 b0_3 b0_4 b0_5 b0_6 b0_7 b0_8 b1 b1_1 b1_2 b1_3 b1_4 b1_5 b2 b2_1 b2_2 b2_3 b2_4 b2_5 b3 b3_1 b3_2 b3_3 b3_4 b3_5 b4 b5 b5_1 b5_2 b5_3 b6 b7 := by kernel_rfl
noncomputable def L_ref13_lock_77_2_1 (x : ty_137_6) : Option ty_137_10 := iterO (fun x => st_ref13_lock_77_2_1 x.1 x.2.1 x.2.2.1 x.2.2.2.1 x.2.2.2.2.1 x.2.2.2.2.2.1 x.2.2.2.2.2.2.1 x.2.2.2.2.2.2.2.1 x.2.2.2.2.2.2.2.2.1 x.2.2.2.2.2.2.2.2.2.1 x.2.2.2.2.2.2.2.2.2.2.1 x.2.2.2.2.2.2.2.2.2.2.2.1 x.2.2.2.2.2.2.2.2.2.2.2.2.1 x.2.2.2.2.2.2.2.2.2.2.2.2.2.1 x.2.2.2.2.2.2.2.2.2.2.2.2.2.2.1 x.2.2.2.2.2.2.2.2.2.2.2.2.2.2.2.1 x.2.2.2.2.2.2.2.2.2.2.2.2.2.2.2.2.1 x.2.2.2.2.2.2.2.2.2.2.2.2.2.2.2.2.2.1 x.2.2.2.2.2.2.2.2.2.2.2.2.2.2.2.2.2.2.1 x.2.2.2.2.2.2.2.2.2.2.2.2.2.2.2.2.2.2.2.1 x.2.2.2.2.2.2.2.2.2.2.2.2.2.2.2.2.2.2.2.2.1 x.2.2.2.2.2.2.2.2.2.2.2.2.2.2.2.2.2.2.2.2.2.1 x.2.2.2.2.2.2.2.2.2.2.2.2.2.2.2.2.2.2.2.2.2.2.1 x.2.2.2.2.2.2.2.2.2.2.2.2.2.2.2.2.2.2.2.2.2.2.2.1 x.2.2.2.2.2.2.2.2.2.2.2.2.2.2.2.2.2.2.2.2.2.2.2.2.1 x.2.2.2.2.2.2.2.2.2.2.2.2.2.2.2.2.2.2.2.2.2.2.2.2.2.1 x.2.2.2.2.2.2.2.2.2.2.2.2.2.2.2.2.2.2.2.2.2.2.2.2.2.2.1 x.2.2.2.2.2.2.2.2.2.2.2.2.2.2.2.2.2.2.2.2.2.2.2.2.2.2.2.1 x.2.2.2.2.2.2.2.2.2.2.2.2.2.2.2.2.2.2.2.2.2.2.2.2.2.2.2.2.1 x.2.2.2.2.2.2.2.2.2.2.2.2.2.2.2.2.2.2.2.2.2.2.2.2.2.2.2.2.2.1 x.2.2.2.2.2.2.2.2.2.2.2.2.2.2.2.2.2.2.2.2.2.2.2.2.2.2.2.2.2.2.1 x.2.2.2.2.2.2.2.2.2.2.2.2.2.2.2.2.2.2.2.2.2.2.2.2.2.2.2.2.2.2.2.1 x.2.2.2.2.2.2.2.2.2.2.2.2.2.2.2.2.2.2.2.2.2.2.2.2.2.2.2.2.2.2.2.2.1 x.2.2.2.2.2.2.2.2.2.2.2.2.2.2.2.2.2.2.2.2.2.2.2.2.2.2.2.2.2.2.2.2.2.1 x.2.2.2.2.2.2.2.2.2.2.2.2.2.2.2.2.2.2.2.2.2.2.2.2.2.2.2.2.2.2.2.2.2.2.1 x.2.2.2.2.2.2.2.2.2.2.2.2.2.2.2.2.2.2.2.2.2.2.2.2.2.2.2.2.2.2.2.2.2.2.2.1 x.2.2.2.2.2.2.2.2.2.2.2.2.2.2.2.2.2.2.2.2.2.2.2.2.2.2.2.2.2.2.2.2.2.2.2.2) FUEL x
def s_ref13_lock_77_2_0 : StS := ⟨[(0, .int .i64), (3, .sl tEn), (5, .ptr 0 0), (6, .ptr 1 0), (8, .ptr 2 0), (9, .ptr 3 0), (10, .ptr 4 0), (12, .int .i64)], [(0, .box [.int .i64, .int .i64, .int .i64, .int .i64, .int .i64, .int .i64, .int .i64, .int .i64, .int .i64]), (1, .box [.bool, .sl tI, .sl tI, .sl tI, .int .i64, .int .i64]), (2, .box [.bool, .nil, .nil, .nil, .int .i64, .int .i64, .bool, .nil, .nil, .nil, .int .i64, .int .i64, .nil, .nil, .nil]), (3, .box [.bool, .nil, .nil, .nil, .int .i64, .int .i64, .bool, .nil, .nil, .nil, .int .i64, .int .i64, .nil, .nil, .nil]), (4, .box [.bool, .sl tI, .row 5, .row 6, .int .i64, .int .i64]), (5, .row tI), (6, .row tI)], 7⟩
def x_ref13_lock_77_2_0_0 : StS := ⟨[(5, .ptr 0 0), (6, .ptr 1 0), (8, .ptr 2 0), (9, .ptr 3 0), (10, .ptr 4 0)], [(0, .box [.int .i64, .int .i64, .int .i64, .int .i64, .int .i64, .int .i64, .int .i64, .int .i64, .int .i64]), (1, .box [.bool, .sl tI, .sl tI, .sl tI, .int .i64, .int .i64]), (2, .box [.bool, .nil, .nil, .nil, .int .i64, .int .i64, .bool, .nil, .nil, .nil, .int .i64, .int .i64, .nil, .nil, .nil]), (3, .box [.bool, .nil, .nil, .nil, .int .i64, .int .i64, .bool, .nil, .nil, .nil, .int .i64, .int .i64, .nil, .nil, .nil]), (4, .box [.bool, .sl tI, .row 5, .row 6, .int .i64, .int .i64]), (5, .row tI), (6, .row tI)], 7⟩
noncomputable def st_ref13_lock_77_2_0 (s0 : Int) (s3 : (List En)) (s12 : Int) (b0 : Int) (b0_1 : Int) (b0_2 : Int) (b0_3 : Int) (b0_4 : Int) (b0_5 : Int) (b0_6 : Int) (b0_7 : Int) (b0_8 : Int) (b1 : Bool) (b1_1 : (List I)) (b1_2 : (List I)) (b1_3 : (List I)) (b1_4 : Int) (b1_5 : Int) (b2 : Bool) (b2_1 : Int) (b2_2 : Int) (b2_3 : Bool) (b2_4 : Int) (b2_5 : Int) (b3 : Bool) (b3_1 : Int) (b3_2 : Int) (b3_3 : Bool) (b3_4 : Int) (b3_5 : Int) (b4 : Bool) (b4_1 : (List I)) (b4_2 : Int) (b4_3 : Int) (b5 : (List I)) (b6 : (List I)) : Option (ty_137_8 ⊕ ty_137_11) :=
  bif decide (s12 < (↑b6.length : Int)) then
 bif decide (0 ≤ s12) then
 optC b6[s12.toNat]? none fun d41 ↦
 optC b6[s12.toNat]? none fun d42 ↦
 optC (G_ref12_Gained (s3, s0, true, s12, b1_4, b0_4, ())) none fun d43 ↦
 optC (G_ref2_Join (d42, d43, ())) none fun d44 ↦
 bif decide (0 ≤ s12) then
 optC b6[s12.toNat]? none fun d45 ↦
 optC b6[s12.toNat]? none fun d46 ↦
 some
 (Sum.inl
 (s0, s3, Go.IntKind.i64.wrap (s12 + 1), b0, b0_1, b0_2, b0_3, b0_4, b0_5, b0_6, b0_7, b0_8, b1, b1_1, b1_2, b1_3, b1_4, b1_5, b2, b2_1, b2_2, b2_3, b2_4, b2_5, b3, b3_1, b3_2,
 b3_3, b3_4, b3_5, b4, b4_1, b4_2, b4_3, b5, b6.set s12.toNat d44))
 else none
 else none
 else
 some
 (Sum.inr (b0, b0_1, b0_2, b0_3, b0_4, b0_5, b0_6, b0_7, b0_8, b1, b1_1, b1_2, b1_3, b1_4, b1_5, b2, b2_1, b2_2, b2_3, b2_4, b2_5, b3, b3_1, b3_2, b3_3, b3_4, b3_5, b4, b4_1, b4_2, b4_3, b5, b6))
theorem rn_ref13_lock_77_2_0 (s0 : Int) (s3 : (List En)) (s12 : Int) (b0 : Int) (b0_1 : Int) (b0_2 : Int) (b0_3 : Int) (b0_4 : Int) (b0_5 : Int) (b0_6 : Int) (b0_7 : Int) (b0_8 : Int) (b1 : Bool) (b1_1 : (List I)) (b1_2 : (List I)) (b1_3 : (List I)) (b1_4 : Int) (b1_5 : Int) (b2 : Bool) (b2_1 : Int) (b2_2 : Int) (b2_3 : Bool) (b2_4 : Int) (b2_5 : Int) (b3 : Bool) (b3_1 : Int) (b3_2 : Int) (b3_3 : Bool) (b3_4 : Int) (b3_5 : Int) (b4 : Bool) (b4_1 : (List I)) (b4_2 : Int) (b4_3 : Int) (b5 : (List I)) (b6 : (List I)) : rdX cx_ref13_lock1 keeps 8 ⟨77, 108, keeps 77, 0⟩ 2 (bodyX 77 2) 0 kp_ref13_lock_77_2 (sT s_ref13_lock_77_2_0 ((s0, s3, (), (), (), (), (), s12, ()), ((b0, b0_1, b0_2, b0_3, b0_4, b0_5, b0_6, b0_7, b0_8, ()), (b1, b1_1, b1_2, b1_3, b1_4, b1_5, ()), (b2, (), (), (), b2_1, b2_2, b2_3, (), (), (), b2_4, b2_5, (), (), (), ()), (b3, (), (), (), b3_1, b3_2, b3_3, (), (), (), b3_4, b3_5, (), (), (), ()), (b4, b4_1, (), (), b4_2, b4_3, ()), b5, b6, ()))) (sH s_ref13_lock_77_2_0 ((s0, s3, (), (), (), (), (), s12, ()), ((b0, b0_1, b0_2, b0_3, b0_4, b0_5, b0_6, b0_7, b0_8, ()), (b1, b1_1, b1_2, b1_3, b1_4, b1_5, ()), (b2, (), (), (), b2_1, b2_2, b2_3, (), (), (), b2_4, b2_5, (), (), (), ()), (b3, (), (), (), b3_1, b3_2, b3_3, (), (), (), b3_4, b3_5, (), (), (), ()), (b4, b4_1, (), (), b4_2, b4_3, ()), b5, b6, ()))) (rdO (fun T h => (rdS s_ref13_lock_77_2_0 T h).map fn_137_7) (getE 4 x_ref13_lock_77_2_0_0 (fun (d : ty_137_5) => ((d.2.1.1, d.2.1.2.1, d.2.1.2.2.1, d.2.1.2.2.2.1, d.2.1.2.2.2.2.1, d.2.1.2.2.2.2.2.1, d.2.1.2.2.2.2.2.2.1, d.2.1.2.2.2.2.2.2.2.1, d.2.1.2.2.2.2.2.2.2.2.1, d.2.2.1.1, d.2.2.1.2.1, d.2.2.1.2.2.1, d.2.2.1.2.2.2.1, d.2.2.1.2.2.2.2.1, d.2.2.1.2.2.2.2.2.1, d.2.2.2.1.1, d.2.2.2.1.2.2.2.2.1, d.2.2.2.1.2.2.2.2.2.1, d.2.2.2.1.2.2.2.2.2.2.1, d.2.2.2.1.2.2.2.2.2.2.2.2.2.2.1, d.2.2.2.1.2.2.2.2.2.2.2.2.2.2.2.1, d.2.2.2.2.1.1, d.2.2.2.2.1.2.2.2.2.1, d.2.2.2.2.1.2.2.2.2.2.1, d.2.2.2.2.1.2.2.2.2.2.2.1, d.2.2.2.2.1.2.2.2.2.2.2.2.2.2.2.1, d.2.2.2.2.1.2.2.2.2.2.2.2.2.2.2.2.1, d.2.2.2.2.2.1.1, d.2.2.2.2.2.1.2.1, d.2.2.2.2.2.1.2.2.2.2.1, d.2.2.2.2.2.1.2.2.2.2.2.1, d.2.2.2.2.2.2.1, d.2.2.2.2.2.2.2.1) : ty_137_11)))) = st_ref13_lock_77_2_0 s0 s3 s12 b0 b0_1 b0_2 b0_3 b0_4 b0_5 b0_6 b0_7 b0_8 b1 b1_1 b1_2 b1_3 b1_4 b1_5 b2 b2_1 b2_2 b2_3 b2_4 b2_5 b3 b3_1 b3_2 b3_3 b3_4 b3_5 b4 b4_1 b4_2 b4_3 b5 b6 := by kernel_rfl
noncomputable def L_ref13_lock_77_2_0 (x : ty_137_8) : Option ty_137_11 := iterO (fun x => st_ref13_lock_77_2_0 x.1 x.2.1 x.2.2.1 x.2.2.2.1 x.2.2.2.2.1 x.2.2.2.2.2.1 x.2.2.2.2.2.2.1 x.2.2.2.2.2.2.2.1 x.2.2.2.2.2.2.2.2.1 x.2.2.2.2.2.2.2.2.2.1 x.2.2.2.2.2.2.2.2.2.2.1 x.2.2.2.2.2.2.2.2.2.2.2.1 x.2.2.2.2.2.2.2.2.2.2.2.2.1 x.2.2.2.2.2.2.2.2.2.2.2.2.2.1 x.2.2.2.2.2.2.2.2.2.2.2.2.2.2.1 x.2.2.2.2.2.2.2.2.2.2.2.2.2.2.2.1 x.2.2.2.2.2.2.2.2.2.2.2.2.2.2.2.2.1 x.2.2.2.2.2.2.2.2.2.2.2.2.2.2.2.2.2.1 x.2.2.2.2.2.2.2.2.2.2.2.2.2.2.2.2.2.2.1 x.2.2.2.2.2.2.2.2.2.2.2.2.2.2.2.2.2.2.2.1 x.2.2.2.2.2.2.2.2.2.2.2.2.2.2.2.2.2.2.2.2.1 x.2.2.2.2.2.2.2.2.2.2.2.2.2.2.2.2.2.2.2.2.2.1 x.2.2.2.2.2.2.2.2.2.2.2.2.2.2.2.2.2.2.2.2.2.2.1 x.2.2.2.2.2.2.2.2.2.2.2.2.2.2.2.2.2.2.2.2.2.2.2.1 x.2.2.2.2.2.2.2.2.2.2.2.2.2.2.2.2.2.2.2.2.2.2.2.2.1 x.2.2.2.2.2.2.2.2.2.2.2.2.2.2.2.2.2.2.2.2.2.2.2.2.2.1 x.2.2.2.2.2.2.2.2.2.2.2.2.2.2.2.2.2.2.2.2.2.2.2.2.2.2.1 x.2.2.2.2.2.2.2.2.2.2.2.2.2.2.2.2.2.2.2.2.2.2.2.2.2.2.2.1 x.2.2.2.2.2.2.2.2.2.2.2.2.2.2.2.2.2.2.2.2.2.2.2.2.2.2.2.2.1 x.2.2.2.2.2.2.2.2.2.2.2.2.2.2.2.2.2.2.2.2.2.2.2.2.2.2.2.2.2.1 x.2.2.2.2.2.2.2.2.2.2.2.2.2.2.2.2.2.2.2.2.2.2.2.2.2.2.2.2.2.2.1 x.2.2.2.2.2.2.2.2.2.2.2.2.2.2.2.2.2.2.2.2.2.2.2.2.2.2.2.2.2.2.2.1 x.2.2.2.2.2.2.2.2.2.2.2.2.2.2.2.2.2.2.2.2.2.2.2.2.2.2.2.2.2.2.2.2.1 x.2.2.2.2.2.2.2.2.2.2.2.2.2.2.2.2.2.2.2.2.2.2.2.2.2.2.2.2.2.2.2.2.2.1 x.2.2.2.2.2.2.2.2.2.2.2.2.2.2.2.2.2.2.2.2.2.2.2.2.2.2.2.2.2.2.2.2.2.2.1 x.2.2.2.2.2.2.2.2.2.2.2.2.2.2.2.2.2.2.2.2.2.2.2.2.2.2.2.2.2.2.2.2.2.2.2) FUEL x
noncomputable def q_ref13_lock_77_2 : Nat → Tm → Prog (Nat × Tm) := (varP 0 (fun T h => (rdS s_ref13_lock_77_2_0 T h).map fn_137_7) L_ref13_lock_77_2_0 (altE 4 x_ref13_lock_77_2_0_0 fn_137_5) (varP 0 (fun T h => (rdS s_ref13_lock_77_2_1 T h).map fn_137_6) L_ref13_lock_77_2_1 (altE 4 x_ref13_lock_77_2_1_0 fn_137_4) (fun _ _ => .fail)))
theorem ok_ref13_lock_77_2 : VarOk kp_ref13_lock_77_2 F_ref13_lock_77_2 q_ref13_lock_77_2 := (varX_ok (s := s_ref13_lock_77_2_0) (un := fn_137_2) (by rfl) (fun _ => rfl) (getE_ok (s := x_ref13_lock_77_2_0_0) (un := fn_137_5) (by rfl) (fun _ => rfl)) (step := fun x => st_ref13_lock_77_2_0 x.1 x.2.1 x.2.2.1 x.2.2.2.1 x.2.2.2.2.1 x.2.2.2.2.2.1 x.2.2.2.2.2.2.1 x.2.2.2.2.2.2.2.1 x.2.2.2.2.2.2.2.2.1 x.2.2.2.2.2.2.2.2.2.1 x.2.2.2.2.2.2.2.2.2.2.1 x.2.2.2.2.2.2.2.2.2.2.2.1 x.2.2.2.2.2.2.2.2.2.2.2.2.1 x.2.2.2.2.2.2.2.2.2.2.2.2.2.1 x.2.2.2.2.2.2.2.2.2.2.2.2.2.2.1 x.2.2.2.2.2.2.2.2.2.2.2.2.2.2.2.1 x.2.2.2.2.2.2.2.2.2.2.2.2.2.2.2.2.1 x.2.2.2.2.2.2.2.2.2.2.2.2.2.2.2.2.2.1 x.2.2.2.2.2.2.2.2.2.2.2.2.2.2.2.2.2.2.1 x.2.2.2.2.2.2.2.2.2.2.2.2.2.2.2.2.2.2.2.1 x.2.2.2.2.2.2.2.2.2.2.2.2.2.2.2.2.2.2.2.2.1 x.2.2.2.2.2.2.2.2.2.2.2.2.2.2.2.2.2.2.2.2.2.1 x.2.2.2.2.2.2.2.2.2.2.2.2.2.2.2.2.2.2.2.2.2.2.1 x.2.2.2.2.2.2.2.2.2.2.2.2.2.2.2.2.2.2.2.2.2.2.2.1 x.2.2.2.2.2.2.2.2.2.2.2.2.2.2.2.2.2.2.2.2.2.2.2.2.1 x.2.2.2.2.2.2.2.2.2.2.2.2.2.2.2.2.2.2.2.2.2.2.2.2.2.1 x.2.2.2.2.2.2.2.2.2.2.2.2.2.2.2.2.2.2.2.2.2.2.2.2.2.2.1 x.2.2.2.2.2.2.2.2.2.2.2.2.2.2.2.2.2.2.2.2.2.2.2.2.2.2.2.1 x.2.2.2.2.2.2.2.2.2.2.2.2.2.2.2.2.2.2.2.2.2.2.2.2.2.2.2.2.1 x.2.2.2.2.2.2.2.2.2.2.2.2.2.2.2.2.2.2.2.2.2.2.2.2.2.2.2.2.2.1 x.2.2.2.2.2.2.2.2.2.2.2.2.2.2.2.2.2.2.2.2.2.2.2.2.2.2.2.2.2.2.1 x.2.2.2.2.2.2.2.2.2.2.2.2.2.2.2.2.2.2.2.2.2.2.2.2.2.2.2.2.2.2.2.1 x.2.2.2.2.2.2.2.2.2.2.2.2.2.2.2.2.2.2.2.2.2.2.2.2.2.2.2.2.2.2.2.2.1 x.2.2.2.2.2.2.2.2.2.2.2.2.2.2.2.2.2.2.2.2.2.2.2.2.2.2.2.2.2.2.2.2.2.1 x.2.2.2.2.2.2.2.2.2.2.2.2.2.2.2.2.2.2.2.2.2.2.2.2.2.2.2.2.2.2.2.2.2.2.1 x.2.2.2.2.2.2.2.2.2.2.2.2.2.2.2.2.2.2.2.2.2.2.2.2.2.2.2.2.2.2.2.2.2.2.2) (fun x => rn_ref13_lock_77_2_0 x.1 x.2.1 x.2.2.1 x.2.2.2.1 x.2.2.2.2.1 x.2.2.2.2.2.1 x.2.2.2.2.2.2.1 x.2.2.2.2.2.2.2.1 x.2.2.2.2.2.2.2.2.1 x.2.2.2.2.2.2.2.2.2.1 x.2.2.2.2.2.2.2.2.2.2.1 x.2.2.2.2.2.2.2.2.2.2.2.1 x.2.2.2.2.2.2.2.2.2.2.2.2.1 x.2.2.2.2.2.2.2.2.2.2.2.2.2.1 x.2.2.2.2.2.2.2.2.2.2.2.2.2.2.1 x.2.2.2.2.2.2.2.2.2.2.2.2.2.2.2.1 x.2.2.2.2.2.2.2.2.2.2.2.2.2.2.2.2.1 x.2.2.2.2.2.2.2.2.2.2.2.2.2.2.2.2.2.1 x.2.2.2.2.2.2.2.2.2.2.2.2.2.2.2.2.2.2.1 x.2.2.2.2.2.2.2.2.2.2.2.2.2.2.2.2.2.2.2.1 x.2.2.2.2.2.2.2.2.2.2.2.2.2.2.2.2.2.2.2.2.1 x.2.2.2.2.2.2.2.2.2.2.2.2.2.2.2.2.2.2.2.2.2.1 x.2.2.2.2.2.2.2.2.2.2.2.2.2.2.2.2.2.2.2.2.2.2.1 x.2.2.2.2.2.2.2.2.2.2.2.2.2.2.2.2.2.2.2.2.2.2.2.1 x.2.2.2.2.2.2.2.2.2.2.2.2.2.2.2.2.2.2.2.2.2.2.2.2.1 x.2.2.2.2.2.2.2.2.2.2.2.2.2.2.2.2.2.2.2.2.2.2.2.2.2.1 x.2.2.2.2.2.2.2.2.2.2.2.2.2.2.2.2.2.2.2.2.2.2.2.2.2.2.1 x.2.2.2.2.2.2.2.2.2.2.2.2.2.2.2.2.2.2.2.2.2.2.2.2.2.2.2.1 x.2.2.2.2.2.2.2.2.2.2.2.2.2.2.2.2.2.2.2.2.2.2.2.2.2.2.2.2.1 x.2.2.2.2.2.2.2.2.2.2.2.2.2.2.2.2.2.2.2.2.2.2.2.2.2.2.2.2.2.1 x.2.2.2.2.2.2.2.2.2.2.2.2.2.2.2.2.2.2.2.2.2.2.2.2.2.2.2.2.2.2.1 x.2.2.2.2.2.2.2.2.2.2.2.2.2.2.2.2.2.2.2.2.2.2.2.2.2.2.2.2.2.2.2.1 x.2.2.2.2.2.2.2.2.2.2.2.2.2.2.2.2.2.2.2.2.2.2.2.2.2.2.2.2.2.2.2.2.1 x.2.2.2.2.2.2.2.2.2.2.2.2.2.2.2.2.2.2.2.2.2.2.2.2.2.2.2.2.2.2.2.2.2.1 x.2.2.2.2.2.2.2.2.2.2.2.2.2.2.2.2.2.2.2.2.2.2.2.2.2.2.2.2.2.2.2.2.2.2.1 x.2.2.2.2.2.2.2.2.2.2.2.2.2.2.2.2.2.2.2.2.2.2.2.2.2.2.2.2.2.2.2.2.2.2.2) (fun _ _ e => ⟨_, e⟩) (altE_ok 4 x_ref13_lock_77_2_0_0 fn_137_5) (varX_ok (s := s_ref13_lock_77_2_1) (un := fn_137_0) (by rfl) (fun _ => rfl) (getE_ok (s := x_ref13_lock_77_2_1_0) (un := fn_137_4) (by rfl) (fun _ => rfl)) (step := fun x => st_ref13_lock_77_2_1 x.1 x.2.1 x.2.2.1 x.2.2.2.1 x.2.2.2.2.1 x.2.2.2.2.2.1 x.2.2.2.2.2.2.1 x.2.2.2.2.2.2.2.1 x.2.2.2.2.2.2.2.2.1 x.2.2.2.2.2.2.2.2.2.1 x.2.2.2.2.2.2.2.2.2.2.1 x.2.2.2.2.2.2.2.2.2.2.2.1 x.2.2.2.2.2.2.2.2.2.2.2.2.1 x.2.2.2.2.2.2.2.2.2.2.2.2.2.1 x.2.2.2.2.2.2.2.2.2.2.2.2.2.2.1 x.2.2.2.2.2.2.2.2.2.2.2.2.2.2.2.1 x.2.2.2.2.2.2.2.2.2.2.2.2.2.2.2.2.1 x.2.2.2.2.2.2.2.2.2.2.2.2.2.2.2.2.2.1 x.2.2.2.2.2.2.2.2.2.2.2.2.2.2.2.2.2.2.1 x.2.2.2.2.2.2.2.2.2.2.2.2.2.2.2.2.2.2.2.1 x.2.2.2.2.2.2.2.2.2.2.2.2.2.2.2.2.2.2.2.2.1 x.2.2.2.2.2.2.2.2.2.2.2.2.2.2.2.2.2.2.2.2.2.1 x.2.2.2.2.2.2.2.2.2.2.2.2.2.2.2.2.2.2.2.2.2.2.1 x.2.2.2.2.2.2.2.2.2.2.2.2.2.2.2.2.2.2.2.2.2.2.2.1 x.2.2.2.2.2.2.2.2.2.2.2.2.2.2.2.2.2.2.2.2.2.2.2.2.1 x.2.2.2.2.2.2.2.2.2.2.2.2.2.2.2.2.2.2.2.2.2.2.2.2.2.1 x.2.2.2.2.2.2.2.2.2.2.2.2.2.2.2.2.2.2.2.2.2.2.2.2.2.2.1 x.2.2.2.2.2.2.2.2.2.2.2.2.2.2.2.2.2.2.2.2.2.2.2.2.2.2.2.1 x.2.2.2.2.2.2.2.2.2.2.2.2.2.2.2.2.2.2.2.2.2.2.2.2.2.2.2.2.1 x.2.2.2.2.2.2.2.2.2.2.2.2.2.2.2.2.2.2.2.2.2.2.2.2.2.2.2.2.2.1 x.2.2.2.2.2.2.2.2.2.2.2.2.2.2.2.2.2.2.2.2.2.2.2.2.2.2.2.2.2.2.1 x.2.2.2.2.2.2.2.2.2.2.2.2.2.2.2.2.2.2.2.2.2.2.2.2.2.2.2.2.2.2.2.1 x.2.2.2.2.2.2.2.2.2.2.2.2.2.2.2.2.2.2.2.2.2.2.2.2.2.2.2.2.2.2.2.2.1 x.2.2.2.2.2.2.2.2.2.2.2.2.2.2.2.2.2.2.2.2.2.2.2.2.2.2.2.2.2.2.2.2.2.1 x.2.2.2.2.2.2.2.2.2.2.2.2.2.2.2.2.2.2.2.2.2.2.2.2.2.2.2.2.2.2.2.2.2.2.1 x.2.2.2.2.2.2.2.2.2.2.2.2.2.2.2.2.2.2.2.2.2.2.2.2.2.2.2.2.2.2.2.2.2.2.2.1 x.2.2.2.2.2.2.2.2.2.2.2.2.2.2.2.2.2.2.2.2.2.2.2.2.2.2.2.2.2.2.2.2.2.2.2.2) (fun x => rn_ref13_lock_77_2_1 x.1 x.2.1 x.2.2.1 x.2.2.2.1 x.2.2.2.2.1 x.2.2.2.2.2.1 x.2.2.2.2.2.2.1 x.2.2.2.2.2.2.2.1 x.2.2.2.2.2.2.2.2.1 x.2.2.2.2.2.2.2.2.2.1 x.2.2.2.2.2.2.2.2.2.2.1 x.2.2.2.2.2.2.2.2.2.2.2.1 x.2.2.2.2.2.2.2.2.2.2.2.2.1 x.2.2.2.2.2.2.2.2.2.2.2.2.2.1 x.2.2.2.2.2.2.2.2.2.2.2.2.2.2.1 x.2.2.2.2.2.2.2.2.2.2.2.2.2.2.2.1 x.2.2.2.2.2.2.2.2.2.2.2.2.2.2.2.2.1 x.2.2.2.2.2.2.2.2.2.2.2.2.2.2.2.2.2.1 x.2.2.2.2.2.2.2.2.2.2.2.2.2.2.2.2.2.2.1 x.2.2.2.2.2.2.2.2.2.2.2.2.2.2.2.2.2.2.2.1 x.2.2.2.2.2.2.2.2.2.2.2.2.2.2.2.2.2.2.2.2.1 x.2.2.2.2.2.2.2.2.2.2.2.2.2.2.2.2.2.2.2.2.2.1 x.2.2.2.2.2.2.2.2.2.2.2.2.2.2.2.2.2.2.2.2.2.2.1 x.2.2.2.2.2.2.2.2.2.2.2.2.2.2.2.2.2.2.2.2.2.2.2.1 x.2.2.2.2.2.2.2.2.2.2.2.2.2.2.2.2.2.2.2.2.2.2.2.2.1 x.2.2.2.2.2.2.2.2.2.2.2.2.2.2.2.2.2.2.2.2.2.2.2.2.2.1 x.2.2.2.2.2.2.2.2.2.2.2.2.2.2.2.2.2.2.2.2.2.2.2.2.2.2.1 x.2.2.2.2.2.2.2.2.2.2.2.2.2.2.2.2.2.2.2.2.2.2.2.2.2.2.2.1 x.2.2.2.2.2.2.2.2.2.2.2.2.2.2.2.2.2.2.2.2.2.2.2.2.2.2.2.2.1 x.2.2.2.2.2.2.2.2.2.2.2.2.2.2.2.2.2.2.2.2.2.2.2.2.2.2.2.2.2.1 x.2.2.2.2.2.2.2.2.2.2.2.2.2.2.2.2.2.2.2.2.2.2.2.2.2.2.2.2.2.2.1 x.2.2.2.2.2.2.2.2.2.2.2.2.2.2.2.2.2.2.2.2.2.2.2.2.2.2.2.2.2.2.2.1 x.2.2.2.2.2.2.2.2.2.2.2.2.2.2.2.2.2.2.2.2.2.2.2.2.2.2.2.2.2.2.2.2.1 x.2.2.2.2.2.2.2.2.2.2.2.2.2.2.2.2.2.2.2.2.2.2.2.2.2.2.2.2.2.2.2.2.2.1 x.2.2.2.2.2.2.2.2.2.2.2.2.2.2.2.2.2.2.2.2.2.2.2.2.2.2.2.2.2.2.2.2.2.2.1 x.2.2.2.2.2.2.2.2.2.2.2.2.2.2.2.2.2.2.2.2.2.2.2.2.2.2.2.2.2.2.2.2.2.2.2.1 x.2.2.2.2.2.2.2.2.2.2.2.2.2.2.2.2.2.2.2.2.2.2.2.2.2.2.2.2.2.2.2.2.2.2.2.2) (fun _ _ e => ⟨_, e⟩) (altE_ok 4 x_ref13_lock_77_2_1_0 fn_137_4) (VarOk.fail _ _)))
noncomputable def lpI_ref13_lock_77_2 (base : Nat) (T : Tm) : Prog (Nat × Tm) := .norm base (kp_ref13_lock_77_2 0) T (q_ref13_lock_77_2 base)
theorem sndI_ref13_lock_77_2 : SoundC Try.prog 108 (.loop (bodyX 77 2)) lpI_ref13_lock_77_2 := loopK_sound (cx := cx_ref13_lock1) (cal := evF cx_ref13_lock1 keeps 8) (kp := keeps 77) (tabOk_of tab_ok) (cmpsOk_of tab_ok cmps_ok) cal_ref13_lock1 mixed (hl_of (g := 77) (b := 2) in_ref13_lock1 (by kernel_rfl) (by kernel_rfl)) ok_ref13_lock_77_2
noncomputable def lpL_ref13_lock_77_2 : Nat → Tm → Prog (Nat × Tm) := lpI_ref13_lock_77_2
theorem sndL_ref13_lock_77_2 : SoundC Try.prog 108 (.loop (bodyX 77 2)) lpL_ref13_lock_77_2 := sndI_ref13_lock_77_2
noncomputable def lp_ref13_lock : Nat → Nat → Option (Nat → Tm → Prog (Nat × Tm))
  | 77, 0 => some lpL_ref13_lock_77_0
  | 77, 2 => some lpL_ref13_lock_77_2
  | _, _ => none
noncomputable def cx_ref13_lock : Ctx := { tab := tab, spec := sp_ref13_lock, inl := inl, lps := lp_ref13_lock, fuel := 40 }
theorem in_ref13_lock : InlOk Try.prog cx_ref13_lock := ⟨inl_ok, fun g fn c hg hb q hq p hp => by
  change lp_ref13_lock g q.1 = some p at hp
  change inl g = some fn at hg
  generalize hq1 : q.1 = b at hp
  unfold lp_ref13_lock at hp
  split at hp
  · cases hp; exact lps_case (inl := inl) hg hb hq hq1 (by kernel_rfl) (by kernel_rfl) sndL_ref13_lock_77_0
  · cases hp; exact lps_case (inl := inl) hg hb hq hq1 (by kernel_rfl) (by kernel_rfl) sndL_ref13_lock_77_2
  · cases hp⟩
theorem cal_ref13_lock (g : Nat) : SoundA Try.prog g (evF cx_ref13_lock keeps 8 g) := evF_sound (tabOk_of tab_ok) (cmpsOk_of tab_ok cmps_ok) mixed in_ref13_lock hsp_ref13_lock keeps 8 g
noncomputable def g_ref13_lock (a0 : Int) (a1 : A) (a2 : E) (a3 : (List En)) : Option O :=
  optC (G_ref3_Has (a2.2.2.2.2.2, a1.2.2.2.2.1, ())) none fun d9 ↦
 bif d9 then
 optC (G_ref3_Has (a2.2.2.2.2.1, a1.2.2.2.2.1, ())) none fun d10 ↦
 bif d10 then some ((false, [], [], [], 0, 0), (false, [], [], [], 0, 0), [11], [], [])
 else
 bif decide (((List.length (α := I) []) + List.length a2.2.2.1 + 1) * 16 ≤ lim) then
 bif decide (((List.length (α := I) []) + List.length a2.2.2.2.1 + 1) * 16 ≤ lim) then
 optC
 (L_ref13_lock_77_0_1
 (a0, a3, 0, a1.1, a1.2.1, a1.2.2.1, a1.2.2.2.1, a1.2.2.2.2.1, a1.2.2.2.2.2.1, a1.2.2.2.2.2.2.1,
 a1.2.2.2.2.2.2.2.1, a1.2.2.2.2.2.2.2.2, a2.1, a2.2.1, a2.2.2.1, a2.2.2.2.1, a2.2.2.2.2.1, a2.2.2.2.2.2,
 false, 0, 0, false, 0, 0, false, 0, 0, false, 0, 0, [11], a2.1, a2.2.1, a2.2.2.2.2.1, a2.2.2.2.2.2, [] ++ a2.2.2.1,
 [] ++ a2.2.2.2.1))
 none fun d11 ↦
 optC (L_ref13_lock_77_2_1 (d11.1, d11.2.1, 0, d11.2.2)) none fun d12 ↦
 optC (G_ref3_With (d12.2.2.2.2.2.2.2.2.2.2.2.2.2.1, [d12.2.2.2.2.1], ())) none fun d13 ↦
 optC (G_ref3_With (d12.2.2.2.2.2.2.2.2.2.2.2.2.2.2.1, [d12.2.2.2.2.1], ())) none fun d14 ↦
 some
 ((d12.2.2.2.2.2.2.2.2.2.2.2.2.2.2.2.2.2.2.2.2.2.2.2.2.2.2.2.2.1,
 d12.2.2.2.2.2.2.2.2.2.2.2.2.2.2.2.2.2.2.2.2.2.2.2.2.2.2.2.2.2.1,
 d12.2.2.2.2.2.2.2.2.2.2.2.2.2.2.2.2.2.2.2.2.2.2.2.2.2.2.2.2.2.2.2.2.1,
 d12.2.2.2.2.2.2.2.2.2.2.2.2.2.2.2.2.2.2.2.2.2.2.2.2.2.2.2.2.2.2.2.2.2, d13, d14),
 (d12.2.2.2.2.2.2.2.2.2.2.2.2.2.2.2.2.2.2.2.2.2.2.2.2.1, [], [], [],
 d12.2.2.2.2.2.2.2.2.2.2.2.2.2.2.2.2.2.2.2.2.2.2.2.2.2.1,
 d12.2.2.2.2.2.2.2.2.2.2.2.2.2.2.2.2.2.2.2.2.2.2.2.2.2.2.1),
 d12.2.2.2.2.2.2.2.2.2.2.2.2.2.2.2.2.2.2.2.2.2.2.2.2.2.2.2.1, [], [])
 else none
 else none
 else
 optC (G_ref3_Has (a2.2.2.2.2.1, a1.2.2.2.2.1, ())) none fun d10 ↦
 bif d10 then some ((false, [], [], [], 0, 0), (false, [], [], [], 0, 0), [], [], [])
 else
 bif decide (((List.length (α := I) []) + List.length a2.2.2.1 + 1) * 16 ≤ lim) then
 bif decide (((List.length (α := I) []) + List.length a2.2.2.2.1 + 1) * 16 ≤ lim) then
 optC
 (L_ref13_lock_77_0_0
 (a0, a3, 0, a1.1, a1.2.1, a1.2.2.1, a1.2.2.2.1, a1.2.2.2.2.1, a1.2.2.2.2.2.1, a1.2.2.2.2.2.2.1,
 a1.2.2.2.2.2.2.2.1, a1.2.2.2.2.2.2.2.2, a2.1, a2.2.1, a2.2.2.1, a2.2.2.2.1, a2.2.2.2.2.1, a2.2.2.2.2.2,
 false, 0, 0, false, 0, 0, false, 0, 0, false, 0, 0, a2.1, a2.2.1, a2.2.2.2.2.1, a2.2.2.2.2.2, [] ++ a2.2.2.1,
 [] ++ a2.2.2.2.1))
 none fun d11 ↦
 optC (L_ref13_lock_77_2_0 (d11.1, d11.2.1, 0, d11.2.2)) none fun d12 ↦
 optC (G_ref3_With (d12.2.2.2.2.2.2.2.2.2.2.2.2.2.1, [d12.2.2.2.2.1], ())) none fun d13 ↦
 optC (G_ref3_With (d12.2.2.2.2.2.2.2.2.2.2.2.2.2.2.1, [d12.2.2.2.2.1], ())) none fun d14 ↦
 some
 ((d12.2.2.2.2.2.2.2.2.2.2.2.2.2.2.2.2.2.2.2.2.2.2.2.2.2.2.2.1,
 d12.2.2.2.2.2.2.2.2.2.2.2.2.2.2.2.2.2.2.2.2.2.2.2.2.2.2.2.2.1,
 d12.2.2.2.2.2.2.2.2.2.2.2.2.2.2.2.2.2.2.2.2.2.2.2.2.2.2.2.2.2.2.2.1,
 d12.2.2.2.2.2.2.2.2.2.2.2.2.2.2.2.2.2.2.2.2.2.2.2.2.2.2.2.2.2.2.2.2, d13, d14),
 (d12.2.2.2.2.2.2.2.2.2.2.2.2.2.2.2.2.2.2.2.2.2.2.2.2.1, [], [], [],
 d12.2.2.2.2.2.2.2.2.2.2.2.2.2.2.2.2.2.2.2.2.2.2.2.2.2.1,
 d12.2.2.2.2.2.2.2.2.2.2.2.2.2.2.2.2.2.2.2.2.2.2.2.2.2.2.1),
 [], [], [])
 else none
 else none
theorem raw_ref13_lock (a0 : Int) (a1 : A) (a2 : E) (a3 : (List En)) : evGX cx_ref13_lock keeps 8 77 ash_ref13_lock (.dat tO) ((a0, a1, a2, a3, ()) : (Int × (A × (E × ((List En) × Unit))))) = g_ref13_lock a0 a1 a2 a3 := by kernel_rfl
noncomputable def G_ref13_lock (x : (Int × (A × (E × ((List En) × Unit))))) : Option O := g_ref13_lock x.1 x.2.1 x.2.2.1 x.2.2.2.1
noncomputable def con_ref13_lock : List AV → Prog AV := conP true ash_ref13_lock (.dat tO) G_ref13_lock
theorem snd_ref13_lock : SoundA Try.prog 77 con_ref13_lock := conP_sound (cal_ref13_lock 77) true (by rfl) (by rfl) (fun x r e => (evGX_eq _ _ _ _ _ _ _).trans ((raw_ref13_lock x.1 x.2.1 x.2.2.1 x.2.2.2.1).trans e)) (.inl rfl)
end Go.Proofs.Ytbdcblpjemmipaa.Ex

namespace Go.Proofs.Ytbdcblpjemmipaa.Ex
open Go.Proofs
set_option maxRecDepth 100000
set_option maxHeartbeats 2000000
set_option linter.unusedVariables false
set_option linter.unusedSimpArgs false
def gmap (l : List En) (t : Int) (ar : Bool) (must m : Int) (r : List I) : List I := r.mapIdx fun i d => rJoin d (gainV l t ar i must m)
theorem mg_flow_deed_gains_133_0_0 {s0 : Int} {s0_1 : Int} {s0_2 : Int} {s0_3 : Int} {s0_4 : Int} {s0_5 : Int} {s0_6 : Int} {s0_7 : Int} {s0_8 : Int} {s0_9 : (List Int)} {s0_10 : (List Int)} {s0_11 : Int} {s0_12 : (List C)} {s0_13 : Int} {s0_14 : Int} {s0_15 : Bool} {s0_16 : (List I)} {s0_17 : (List I)} {s0_18 : (List I)} {s0_19 : Int} {s0_20 : Int} {s0_21 : (List En)} {s0_22 : Bool} {s0_23 : (List I)} {s0_24 : (List I)} {s0_25 : (List I)} {s0_26 : Int} {s0_27 : Int} {s0_28 : Bool} {s0_29 : (List I)} {s0_30 : (List I)} {s0_31 : (List I)} {s0_32 : Int} {s0_33 : Int} {s0_34 : (List Int)} {s0_35 : (List En)} {s0_36 : (List Ac)} {s2 : Bool} {l : List I} (hh : 0 ≤ s0_19 ∧ s0_19 < 2147483648) (he : ∀ e ∈ s0_21, entOK e) (hn : s0_21.length < 1000000000000) (hl : l.length < 9223372036854775807) : L_flow_deed_gains_133_0_0 (s0, s0_1, s0_2, s0_3, s0_4, s0_5, s0_6, s0_7, s0_8, s0_9, s0_10, s0_11, s0_12, s0_13, s0_14, s0_15, s0_16, s0_17, s0_18, s0_19, s0_20, s0_21, s0_22, s0_23, s0_24, s0_25, s0_26, s0_27, s0_28, s0_29, s0_30, s0_31, s0_32, s0_33, s0_34, s0_35, s0_36, s2, (l.length : Int), 0, l) = some (gmap s0_21 s0_13 s2 s0_19 s0_4 l) := by
  unfold L_flow_deed_gains_133_0_0
  refine iterO_map (fun i r => ((s0, s0_1, s0_2, s0_3, s0_4, s0_5, s0_6, s0_7, s0_8, s0_9, s0_10, s0_11, s0_12, s0_13, s0_14, s0_15, s0_16, s0_17, s0_18, s0_19, s0_20, s0_21, s0_22, s0_23, s0_24, s0_25, s0_26, s0_27, s0_28, s0_29, s0_30, s0_31, s0_32, s0_33, s0_34, s0_35, s0_36, s2, (l.length : Int), (i : Int), r) : (Int × Int × Int × Int × Int × Int × Int × Int × Int × (List Int) × (List Int) × Int × (List C) × Int × Int × Bool × (List I) × (List I) × (List I) × Int × Int × (List En) × Bool × (List I) × (List I) × (List I) × Int × Int × Bool × (List I) × (List I) × (List I) × Int × Int × (List Int) × (List En) × (List Ac) × Bool × Int × Int × (List I)))) (fun i d => rJoin d (gainV s0_21 s0_13 s2 i s0_19 s0_4)) (fun r => (r : (List I))) l ?_ ?_ hl
  · intro i d r hi hr hd
    have hj : i < l.length := (List.getElem?_eq_some_iff.1 hi).1
    have e1 : decide ((i : Int) < (l.length : Int)) = true := decide_eq_true (by omega)
    have e2 : decide (0 ≤ (i : Int)) = true := decide_eq_true (by omega)
    have e3 : Int.toNat (i : Int) = i := Int.toNat_natCast i
    have e4 := wrap_next hj (Nat.le_of_lt hl)
    show st_flow_deed_gains_133_0_0 (s0) (s0_1) (s0_2) (s0_3) (s0_4) (s0_5) (s0_6) (s0_7) (s0_8) (s0_9) (s0_10) (s0_11) (s0_12) (s0_13) (s0_14) (s0_15) (s0_16) (s0_17) (s0_18) (s0_19) (s0_20) (s0_21) (s0_22) (s0_23) (s0_24) (s0_25) (s0_26) (s0_27) (s0_28) (s0_29) (s0_30) (s0_31) (s0_32) (s0_33) (s0_34) (s0_35) (s0_36) (s2) ((l.length : Int)) ((i : Int)) (r) = _
    unfold st_flow_deed_gains_133_0_0 G_tab_Gained G_itv_Join
    simp only [e1, e2, e3, e4, hd, cond_true, optC_some, n_tab_Gained _ _ _ _ _ _ hh he (by omega), n_itv_Join2, join_eq (gainV_is he)]
  · intro r hr
    have e1 : decide ((l.length : Int) < (l.length : Int)) = false := decide_eq_false (by omega)
    show st_flow_deed_gains_133_0_0 (s0) (s0_1) (s0_2) (s0_3) (s0_4) (s0_5) (s0_6) (s0_7) (s0_8) (s0_9) (s0_10) (s0_11) (s0_12) (s0_13) (s0_14) (s0_15) (s0_16) (s0_17) (s0_18) (s0_19) (s0_20) (s0_21) (s0_22) (s0_23) (s0_24) (s0_25) (s0_26) (s0_27) (s0_28) (s0_29) (s0_30) (s0_31) (s0_32) (s0_33) (s0_34) (s0_35) (s0_36) (s2) ((l.length : Int)) ((l.length : Int)) (r) = _
    unfold st_flow_deed_gains_133_0_0
    rw [e1]
    rfl
theorem mg_ref13_lock_77_0_0 {s0 : Int} {s3 : (List En)} {b0 : Int} {b0_1 : Int} {b0_2 : Int} {b0_3 : Int} {b0_4 : Int} {b0_5 : Int} {b0_6 : Int} {b0_7 : Int} {b0_8 : Int} {b1 : Bool} {b1_1 : (List I)} {b1_2 : (List I)} {b1_3 : (List I)} {b1_4 : Int} {b1_5 : Int} {b2 : Bool} {b2_1 : Int} {b2_2 : Int} {b2_3 : Bool} {b2_4 : Int} {b2_5 : Int} {b3 : Bool} {b3_1 : Int} {b3_2 : Int} {b3_3 : Bool} {b3_4 : Int} {b3_5 : Int} {b4 : Bool} {b4_1 : (List I)} {b4_2 : Int} {b4_3 : Int} {b6 : (List I)} {l : List I} (hh : 0 ≤ b1_4 ∧ b1_4 < 2147483648) (he : ∀ e ∈ s3, entOK e) (hn : s3.length < 1000000000000) (hl : l.length < 9223372036854775807) : L_ref13_lock_77_0_0 (s0, s3, 0, b0, b0_1, b0_2, b0_3, b0_4, b0_5, b0_6, b0_7, b0_8, b1, b1_1, b1_2, b1_3, b1_4, b1_5, b2, b2_1, b2_2, b2_3, b2_4, b2_5, b3, b3_1, b3_2, b3_3, b3_4, b3_5, b4, b4_1, b4_2, b4_3, l, b6) = some (s0, s3, b0, b0_1, b0_2, b0_3, b0_4, b0_5, b0_6, b0_7, b0_8, b1, b1_1, b1_2, b1_3, b1_4, b1_5, b2, b2_1, b2_2, b2_3, b2_4, b2_5, b3, b3_1, b3_2, b3_3, b3_4, b3_5, b4, b4_1, b4_2, b4_3, (gmap s3 s0 Bool.false b1_4 b0_4 l), b6) := by
  unfold L_ref13_lock_77_0_0
  refine iterO_map (fun i r => ((s0, s3, (i : Int), b0, b0_1, b0_2, b0_3, b0_4, b0_5, b0_6, b0_7, b0_8, b1, b1_1, b1_2, b1_3, b1_4, b1_5, b2, b2_1, b2_2, b2_3, b2_4, b2_5, b3, b3_1, b3_2, b3_3, b3_4, b3_5, b4, b4_1, b4_2, b4_3, r, b6) : (Int × (List En) × Int × Int × Int × Int × Int × Int × Int × Int × Int × Int × Bool × (List I) × (List I) × (List I) × Int × Int × Bool × Int × Int × Bool × Int × Int × Bool × Int × Int × Bool × Int × Int × Bool × (List I) × Int × Int × (List I) × (List I)))) (fun i d => rJoin d (gainV s3 s0 Bool.false i b1_4 b0_4)) (fun r => ((s0, s3, b0, b0_1, b0_2, b0_3, b0_4, b0_5, b0_6, b0_7, b0_8, b1, b1_1, b1_2, b1_3, b1_4, b1_5, b2, b2_1, b2_2, b2_3, b2_4, b2_5, b3, b3_1, b3_2, b3_3, b3_4, b3_5, b4, b4_1, b4_2, b4_3, r, b6) : (Int × (List En) × Int × Int × Int × Int × Int × Int × Int × Int × Int × Bool × (List I) × (List I) × (List I) × Int × Int × Bool × Int × Int × Bool × Int × Int × Bool × Int × Int × Bool × Int × Int × Bool × (List I) × Int × Int × (List I) × (List I)))) l ?_ ?_ hl
  · intro i d r hi hr hd
    have hj : i < l.length := (List.getElem?_eq_some_iff.1 hi).1
    have e1 : decide ((i : Int) < (r.length : Int)) = true := decide_eq_true (by omega)
    have e2 : decide (0 ≤ (i : Int)) = true := decide_eq_true (by omega)
    have e3 : Int.toNat (i : Int) = i := Int.toNat_natCast i
    have e4 := wrap_next hj (Nat.le_of_lt hl)
    show st_ref13_lock_77_0_0 (s0) (s3) ((i : Int)) (b0) (b0_1) (b0_2) (b0_3) (b0_4) (b0_5) (b0_6) (b0_7) (b0_8) (b1) (b1_1) (b1_2) (b1_3) (b1_4) (b1_5) (b2) (b2_1) (b2_2) (b2_3) (b2_4) (b2_5) (b3) (b3_1) (b3_2) (b3_3) (b3_4) (b3_5) (b4) (b4_1) (b4_2) (b4_3) (r) (b6) = _
    unfold st_ref13_lock_77_0_0 G_ref12_Gained G_ref2_Join
    simp only [e1, e2, e3, e4, hd, cond_true, optC_some, n_ref12_Gained _ _ _ _ _ _ hh he hn, n_ref2_Join, join_eq (gainV_is he)]
  · intro r hr
    have e1 : decide ((l.length : Int) < (r.length : Int)) = false := decide_eq_false (by omega)
    show st_ref13_lock_77_0_0 (s0) (s3) ((l.length : Int)) (b0) (b0_1) (b0_2) (b0_3) (b0_4) (b0_5) (b0_6) (b0_7) (b0_8) (b1) (b1_1) (b1_2) (b1_3) (b1_4) (b1_5) (b2) (b2_1) (b2_2) (b2_3) (b2_4) (b2_5) (b3) (b3_1) (b3_2) (b3_3) (b3_4) (b3_5) (b4) (b4_1) (b4_2) (b4_3) (r) (b6) = _
    unfold st_ref13_lock_77_0_0
    rw [e1]
    rfl
theorem mg_ref13_lock_77_0_1 {s0 : Int} {s3 : (List En)} {b0 : Int} {b0_1 : Int} {b0_2 : Int} {b0_3 : Int} {b0_4 : Int} {b0_5 : Int} {b0_6 : Int} {b0_7 : Int} {b0_8 : Int} {b1 : Bool} {b1_1 : (List I)} {b1_2 : (List I)} {b1_3 : (List I)} {b1_4 : Int} {b1_5 : Int} {b2 : Bool} {b2_1 : Int} {b2_2 : Int} {b2_3 : Bool} {b2_4 : Int} {b2_5 : Int} {b3 : Bool} {b3_1 : Int} {b3_2 : Int} {b3_3 : Bool} {b3_4 : Int} {b3_5 : Int} {b4 : (List Int)} {b5 : Bool} {b5_1 : (List I)} {b5_2 : Int} {b5_3 : Int} {b7 : (List I)} {l : List I} (hh : 0 ≤ b1_4 ∧ b1_4 < 2147483648) (he : ∀ e ∈ s3, entOK e) (hn : s3.length < 1000000000000) (hl : l.length < 9223372036854775807) : L_ref13_lock_77_0_1 (s0, s3, 0, b0, b0_1, b0_2, b0_3, b0_4, b0_5, b0_6, b0_7, b0_8, b1, b1_1, b1_2, b1_3, b1_4, b1_5, b2, b2_1, b2_2, b2_3, b2_4, b2_5, b3, b3_1, b3_2, b3_3, b3_4, b3_5, b4, b5, b5_1, b5_2, b5_3, l, b7) = some (s0, s3, b0, b0_1, b0_2, b0_3, b0_4, b0_5, b0_6, b0_7, b0_8, b1, b1_1, b1_2, b1_3, b1_4, b1_5, b2, b2_1, b2_2, b2_3, b2_4, b2_5, b3, b3_1, b3_2, b3_3, b3_4, b3_5, b4, b5, b5_1, b5_2, b5_3, (gmap s3 s0 Bool.false b1_4 b0_4 l), b7) := by
  unfold L_ref13_lock_77_0_1
  refine iterO_map (fun i r => ((s0, s3, (i : Int), b0, b0_1, b0_2, b0_3, b0_4, b0_5, b0_6, b0_7, b0_8, b1, b1_1, b1_2, b1_3, b1_4, b1_5, b2, b2_1, b2_2, b2_3, b2_4, b2_5, b3, b3_1, b3_2, b3_3, b3_4, b3_5, b4, b5, b5_1, b5_2, b5_3, r, b7) : (Int × (List En) × Int × Int × Int × Int × Int × Int × Int × Int × Int × Int × Bool × (List I) × (List I) × (List I) × Int × Int × Bool × Int × Int × Bool × Int × Int × Bool × Int × Int × Bool × Int × Int × (List Int) × Bool × (List I) × Int × Int × (List I) × (List I)))) (fun i d => rJoin d (gainV s3 s0 Bool.false i b1_4 b0_4)) (fun r => ((s0, s3, b0, b0_1, b0_2, b0_3, b0_4, b0_5, b0_6, b0_7, b0_8, b1, b1_1, b1_2, b1_3, b1_4, b1_5, b2, b2_1, b2_2, b2_3, b2_4, b2_5, b3, b3_1, b3_2, b3_3, b3_4, b3_5, b4, b5, b5_1, b5_2, b5_3, r, b7) : (Int × (List En) × Int × Int × Int × Int × Int × Int × Int × Int × Int × Bool × (List I) × (List I) × (List I) × Int × Int × Bool × Int × Int × Bool × Int × Int × Bool × Int × Int × Bool × Int × Int × (List Int) × Bool × (List I) × Int × Int × (List I) × (List I)))) l ?_ ?_ hl
  · intro i d r hi hr hd
    have hj : i < l.length := (List.getElem?_eq_some_iff.1 hi).1
    have e1 : decide ((i : Int) < (r.length : Int)) = true := decide_eq_true (by omega)
    have e2 : decide (0 ≤ (i : Int)) = true := decide_eq_true (by omega)
    have e3 : Int.toNat (i : Int) = i := Int.toNat_natCast i
    have e4 := wrap_next hj (Nat.le_of_lt hl)
    show st_ref13_lock_77_0_1 (s0) (s3) ((i : Int)) (b0) (b0_1) (b0_2) (b0_3) (b0_4) (b0_5) (b0_6) (b0_7) (b0_8) (b1) (b1_1) (b1_2) (b1_3) (b1_4) (b1_5) (b2) (b2_1) (b2_2) (b2_3) (b2_4) (b2_5) (b3) (b3_1) (b3_2) (b3_3) (b3_4) (b3_5) (b4) (b5) (b5_1) (b5_2) (b5_3) (r) (b7) = _
    unfold st_ref13_lock_77_0_1 G_ref12_Gained G_ref2_Join
    simp only [e1, e2, e3, e4, hd, cond_true, optC_some, n_ref12_Gained _ _ _ _ _ _ hh he hn, n_ref2_Join, join_eq (gainV_is he)]
  · intro r hr
    have e1 : decide ((l.length : Int) < (r.length : Int)) = false := decide_eq_false (by omega)
    show st_ref13_lock_77_0_1 (s0) (s3) ((l.length : Int)) (b0) (b0_1) (b0_2) (b0_3) (b0_4) (b0_5) (b0_6) (b0_7) (b0_8) (b1) (b1_1) (b1_2) (b1_3) (b1_4) (b1_5) (b2) (b2_1) (b2_2) (b2_3) (b2_4) (b2_5) (b3) (b3_1) (b3_2) (b3_3) (b3_4) (b3_5) (b4) (b5) (b5_1) (b5_2) (b5_3) (r) (b7) = _
    unfold st_ref13_lock_77_0_1
    rw [e1]
    rfl
theorem mg_ref13_lock_77_2_0 {s0 : Int} {s3 : (List En)} {b0 : Int} {b0_1 : Int} {b0_2 : Int} {b0_3 : Int} {b0_4 : Int} {b0_5 : Int} {b0_6 : Int} {b0_7 : Int} {b0_8 : Int} {b1 : Bool} {b1_1 : (List I)} {b1_2 : (List I)} {b1_3 : (List I)} {b1_4 : Int} {b1_5 : Int} {b2 : Bool} {b2_1 : Int} {b2_2 : Int} {b2_3 : Bool} {b2_4 : Int} {b2_5 : Int} {b3 : Bool} {b3_1 : Int} {b3_2 : Int} {b3_3 : Bool} {b3_4 : Int} {b3_5 : Int} {b4 : Bool} {b4_1 : (List I)} {b4_2 : Int} {b4_3 : Int} {b5 : (List I)} {l : List I} (hh : 0 ≤ b1_4 ∧ b1_4 < 2147483648) (he : ∀ e ∈ s3, entOK e) (hn : s3.length < 1000000000000) (hl : l.length < 9223372036854775807) : L_ref13_lock_77_2_0 (s0, s3, 0, b0, b0_1, b0_2, b0_3, b0_4, b0_5, b0_6, b0_7, b0_8, b1, b1_1, b1_2, b1_3, b1_4, b1_5, b2, b2_1, b2_2, b2_3, b2_4, b2_5, b3, b3_1, b3_2, b3_3, b3_4, b3_5, b4, b4_1, b4_2, b4_3, b5, l) = some (b0, b0_1, b0_2, b0_3, b0_4, b0_5, b0_6, b0_7, b0_8, b1, b1_1, b1_2, b1_3, b1_4, b1_5, b2, b2_1, b2_2, b2_3, b2_4, b2_5, b3, b3_1, b3_2, b3_3, b3_4, b3_5, b4, b4_1, b4_2, b4_3, b5, (gmap s3 s0 Bool.true b1_4 b0_4 l)) := by
  unfold L_ref13_lock_77_2_0
  refine iterO_map (fun i r => ((s0, s3, (i : Int), b0, b0_1, b0_2, b0_3, b0_4, b0_5, b0_6, b0_7, b0_8, b1, b1_1, b1_2, b1_3, b1_4, b1_5, b2, b2_1, b2_2, b2_3, b2_4, b2_5, b3, b3_1, b3_2, b3_3, b3_4, b3_5, b4, b4_1, b4_2, b4_3, b5, r) : (Int × (List En) × Int × Int × Int × Int × Int × Int × Int × Int × Int × Int × Bool × (List I) × (List I) × (List I) × Int × Int × Bool × Int × Int × Bool × Int × Int × Bool × Int × Int × Bool × Int × Int × Bool × (List I) × Int × Int × (List I) × (List I)))) (fun i d => rJoin d (gainV s3 s0 Bool.true i b1_4 b0_4)) (fun r => ((b0, b0_1, b0_2, b0_3, b0_4, b0_5, b0_6, b0_7, b0_8, b1, b1_1, b1_2, b1_3, b1_4, b1_5, b2, b2_1, b2_2, b2_3, b2_4, b2_5, b3, b3_1, b3_2, b3_3, b3_4, b3_5, b4, b4_1, b4_2, b4_3, b5, r) : (Int × Int × Int × Int × Int × Int × Int × Int × Int × Bool × (List I) × (List I) × (List I) × Int × Int × Bool × Int × Int × Bool × Int × Int × Bool × Int × Int × Bool × Int × Int × Bool × (List I) × Int × Int × (List I) × (List I)))) l ?_ ?_ hl
  · intro i d r hi hr hd
    have hj : i < l.length := (List.getElem?_eq_some_iff.1 hi).1
    have e1 : decide ((i : Int) < (r.length : Int)) = true := decide_eq_true (by omega)
    have e2 : decide (0 ≤ (i : Int)) = true := decide_eq_true (by omega)
    have e3 : Int.toNat (i : Int) = i := Int.toNat_natCast i
    have e4 := wrap_next hj (Nat.le_of_lt hl)
    show st_ref13_lock_77_2_0 (s0) (s3) ((i : Int)) (b0) (b0_1) (b0_2) (b0_3) (b0_4) (b0_5) (b0_6) (b0_7) (b0_8) (b1) (b1_1) (b1_2) (b1_3) (b1_4) (b1_5) (b2) (b2_1) (b2_2) (b2_3) (b2_4) (b2_5) (b3) (b3_1) (b3_2) (b3_3) (b3_4) (b3_5) (b4) (b4_1) (b4_2) (b4_3) (b5) (r) = _
    unfold st_ref13_lock_77_2_0 G_ref12_Gained G_ref2_Join
    simp only [e1, e2, e3, e4, hd, cond_true, optC_some, n_ref12_Gained _ _ _ _ _ _ hh he hn, n_ref2_Join, join_eq (gainV_is he)]
  · intro r hr
    have e1 : decide ((l.length : Int) < (r.length : Int)) = false := decide_eq_false (by omega)
    show st_ref13_lock_77_2_0 (s0) (s3) ((l.length : Int)) (b0) (b0_1) (b0_2) (b0_3) (b0_4) (b0_5) (b0_6) (b0_7) (b0_8) (b1) (b1_1) (b1_2) (b1_3) (b1_4) (b1_5) (b2) (b2_1) (b2_2) (b2_3) (b2_4) (b2_5) (b3) (b3_1) (b3_2) (b3_3) (b3_4) (b3_5) (b4) (b4_1) (b4_2) (b4_3) (b5) (r) = _
    unfold st_ref13_lock_77_2_0
    rw [e1]
    rfl
theorem mg_ref13_lock_77_2_1 {s0 : Int} {s3 : (List En)} {b0 : Int} {b0_1 : Int} {b0_2 : Int} {b0_3 : Int} {b0_4 : Int} {b0_5 : Int} {b0_6 : Int} {b0_7 : Int} {b0_8 : Int} {b1 : Bool} {b1_1 : (List I)} {b1_2 : (List I)} {b1_3 : (List I)} {b1_4 : Int} {b1_5 : Int} {b2 : Bool} {b2_1 : Int} {b2_2 : Int} {b2_3 : Bool} {b2_4 : Int} {b2_5 : Int} {b3 : Bool} {b3_1 : Int} {b3_2 : Int} {b3_3 : Bool} {b3_4 : Int} {b3_5 : Int} {b4 : (List Int)} {b5 : Bool} {b5_1 : (List I)} {b5_2 : Int} {b5_3 : Int} {b6 : (List I)} {l : List I} (hh : 0 ≤ b1_4 ∧ b1_4 < 2147483648) (he : ∀ e ∈ s3, entOK e) (hn : s3.length < 1000000000000) (hl : l.length < 9223372036854775807) : L_ref13_lock_77_2_1 (s0, s3, 0, b0, b0_1, b0_2, b0_3, b0_4, b0_5, b0_6, b0_7, b0_8, b1, b1_1, b1_2, b1_3, b1_4, b1_5, b2, b2_1, b2_2, b2_3, b2_4, b2_5, b3, b3_1, b3_2, b3_3, b3_4, b3_5, b4, b5, b5_1, b5_2, b5_3, b6, l) = some (b0, b0_1, b0_2, b0_3, b0_4, b0_5, b0_6, b0_7, b0_8, b1, b1_1, b1_2, b1_3, b1_4, b1_5, b2, b2_1, b2_2, b2_3, b2_4, b2_5, b3, b3_1, b3_2, b3_3, b3_4, b3_5, b4, b5, b5_1, b5_2, b5_3, b6, (gmap s3 s0 Bool.true b1_4 b0_4 l)) := by
  unfold L_ref13_lock_77_2_1
  refine iterO_map (fun i r => ((s0, s3, (i : Int), b0, b0_1, b0_2, b0_3, b0_4, b0_5, b0_6, b0_7, b0_8, b1, b1_1, b1_2, b1_3, b1_4, b1_5, b2, b2_1, b2_2, b2_3, b2_4, b2_5, b3, b3_1, b3_2, b3_3, b3_4, b3_5, b4, b5, b5_1, b5_2, b5_3, b6, r) : (Int × (List En) × Int × Int × Int × Int × Int × Int × Int × Int × Int × Int × Bool × (List I) × (List I) × (List I) × Int × Int × Bool × Int × Int × Bool × Int × Int × Bool × Int × Int × Bool × Int × Int × (List Int) × Bool × (List I) × Int × Int × (List I) × (List I)))) (fun i d => rJoin d (gainV s3 s0 Bool.true i b1_4 b0_4)) (fun r => ((b0, b0_1, b0_2, b0_3, b0_4, b0_5, b0_6, b0_7, b0_8, b1, b1_1, b1_2, b1_3, b1_4, b1_5, b2, b2_1, b2_2, b2_3, b2_4, b2_5, b3, b3_1, b3_2, b3_3, b3_4, b3_5, b4, b5, b5_1, b5_2, b5_3, b6, r) : (Int × Int × Int × Int × Int × Int × Int × Int × Int × Bool × (List I) × (List I) × (List I) × Int × Int × Bool × Int × Int × Bool × Int × Int × Bool × Int × Int × Bool × Int × Int × (List Int) × Bool × (List I) × Int × Int × (List I) × (List I)))) l ?_ ?_ hl
  · intro i d r hi hr hd
    have hj : i < l.length := (List.getElem?_eq_some_iff.1 hi).1
    have e1 : decide ((i : Int) < (r.length : Int)) = true := decide_eq_true (by omega)
    have e2 : decide (0 ≤ (i : Int)) = true := decide_eq_true (by omega)
    have e3 : Int.toNat (i : Int) = i := Int.toNat_natCast i
    have e4 := wrap_next hj (Nat.le_of_lt hl)
    show st_ref13_lock_77_2_1 (s0) (s3) ((i : Int)) (b0) (b0_1) (b0_2) (b0_3) (b0_4) (b0_5) (b0_6) (b0_7) (b0_8) (b1) (b1_1) (b1_2) (b1_3) (b1_4) (b1_5) (b2) (b2_1) (b2_2) (b2_3) (b2_4) (b2_5) (b3) (b3_1) (b3_2) (b3_3) (b3_4) (b3_5) (b4) (b5) (b5_1) (b5_2) (b5_3) (b6) (r) = _
    unfold st_ref13_lock_77_2_1 G_ref12_Gained G_ref2_Join
    simp only [e1, e2, e3, e4, hd, cond_true, optC_some, n_ref12_Gained _ _ _ _ _ _ hh he hn, n_ref2_Join, join_eq (gainV_is he)]
  · intro r hr
    have e1 : decide ((l.length : Int) < (r.length : Int)) = false := decide_eq_false (by omega)
    show st_ref13_lock_77_2_1 (s0) (s3) ((l.length : Int)) (b0) (b0_1) (b0_2) (b0_3) (b0_4) (b0_5) (b0_6) (b0_7) (b0_8) (b1) (b1_1) (b1_2) (b1_3) (b1_4) (b1_5) (b2) (b2_1) (b2_2) (b2_3) (b2_4) (b2_5) (b3) (b3_1) (b3_2) (b3_3) (b3_4) (b3_5) (b4) (b5) (b5_1) (b5_2) (b5_3) (b6) (r) = _
    unfold st_ref13_lock_77_2_1
    rw [e1]
    rfl
end Go.Proofs.Ytbdcblpjemmipaa.Ex

namespace Go.Proofs.Ytbdcblpjemmipaa.Ex
open Go.Proofs Go.Proofs.Ytbdcblpjemmipaa
set_option maxRecDepth 100000
set_option maxHeartbeats 2000000
set_option linter.unusedVariables false
set_option linter.unusedSimpArgs false
def ash_num_Not : List Sh := [.dat (.int .i64)]
noncomputable def sp_num_Not : Nat → Option (List AV → Prog AV)
  | _ => none
theorem hsp_num_Not : ∀ g p, sp_num_Not g = some p → SoundA Try.prog g p := by
  intro g p h
  unfold sp_num_Not at h
  split at h
  · cases h
noncomputable def cx_num_Not : Ctx := { tab := tab, spec := sp_num_Not, inl := inl, lps := fun _ _ => none, fuel := 40 }
theorem in_num_Not : InlOk Try.prog cx_num_Not := ⟨inl_ok, fun _ _ _ _ _ _ _ _ h => nomatch h⟩
theorem cal_num_Not (g : Nat) : SoundA Try.prog g (evF cx_num_Not keeps 8 g) := evF_sound (tabOk_of tab_ok) (cmpsOk_of tab_ok cmps_ok) mixed in_num_Not hsp_num_Not keeps 8 g
noncomputable def g_num_Not (a0 : Int) : Option Int :=
  bif a0 == 1 then some 5
 else bif a0 == 2 then some 6 else bif a0 == 3 then some 4 else bif a0 == 4 then some 3 else bif a0 == 5 then some 1 else bif a0 == 6 then some 2 else some a0
theorem raw_num_Not (a0 : Int) : evGX cx_num_Not keeps 8 110 ash_num_Not (.dat (.int .i64)) ((a0, ()) : (Int × Unit)) = g_num_Not a0 := by kernel_rfl
noncomputable def G_num_Not (x : (Int × Unit)) : Option Int := g_num_Not x.1
noncomputable def con_num_Not : List AV → Prog AV := conP true ash_num_Not (.dat (.int .i64)) G_num_Not
theorem snd_num_Not : SoundA Try.prog 110 con_num_Not := conP_sound (cal_num_Not 110) true (by rfl) (by rfl) (fun x r e => (evGX_eq _ _ _ _ _ _ _).trans ((raw_num_Not x.1).trans e)) (.inl rfl)
end Go.Proofs.Ytbdcblpjemmipaa.Ex

namespace Go.Proofs.Ytbdcblpjemmipaa.Ex
open Go.Proofs Go.Proofs.Ytbdcblpjemmipaa
set_option maxRecDepth 100000
set_option maxHeartbeats 2000000
set_option linter.unusedVariables false
set_option linter.unusedSimpArgs false
def ash_env_None : List Sh := [.dat tU, .dat (.int .i64)]
noncomputable def sp_env_None : Nat → Option (List AV → Prog AV)
  | _ => none
theorem hsp_env_None : ∀ g p, sp_env_None g = some p → SoundA Try.prog g p := by
  intro g p h
  unfold sp_env_None at h
  split at h
  · cases h
noncomputable def cx_env_None : Ctx := { tab := tab, spec := sp_env_None, inl := inl, lps := fun _ _ => none, fuel := 40 }
theorem in_env_None : InlOk Try.prog cx_env_None := ⟨inl_ok, fun _ _ _ _ _ _ _ _ h => nomatch h⟩
theorem cal_env_None (g : Nat) : SoundA Try.prog g (evF cx_env_None keeps 8 g) := evF_sound (tabOk_of tab_ok) (cmpsOk_of tab_ok cmps_ok) mixed in_env_None hsp_env_None keeps 8 g
noncomputable def g_env_None (a0 : U) (a1 : Int) : Option E :=
  some (false, [], [], [], 0, 0)
theorem raw_env_None (a0 : U) (a1 : Int) : evGX cx_env_None keeps 8 137 ash_env_None (.dat tE) ((a0, a1, ()) : (U × (Int × Unit))) = g_env_None a0 a1 := by kernel_rfl
noncomputable def G_env_None (x : (U × (Int × Unit))) : Option E := g_env_None x.1 x.2.1
noncomputable def con_env_None : List AV → Prog AV := conP true ash_env_None (.dat tE) G_env_None
theorem snd_env_None : SoundA Try.prog 137 con_env_None := conP_sound (cal_env_None 137) true (by rfl) (by rfl) (fun x r e => (evGX_eq _ _ _ _ _ _ _).trans ((raw_env_None x.1 x.2.1).trans e)) (.inl rfl)
end Go.Proofs.Ytbdcblpjemmipaa.Ex

