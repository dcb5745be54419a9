/- A part of the proofs of the laws of environments: XL. -/
import Derived.Test.YtpahnadbknjepaaXK
import Derived.Test.YtpahnadbknjepaaXH
/- What environments are, in plain Lean. -/
namespace Go.Proofs.Ytpahnadbknjepaa.Ex
open Go.Proofs Go.Proofs.Ytpahnadbknjepaa
set_option maxRecDepth 100000
set_option linter.unusedVariables false
set_option linter.unusedSimpArgs false
theorem isB_nn {x : I} (h : isB x = true) (e : empB x = true) : x = nn := by
  simp only [isB, empB, Bool.or_eq_true, Bool.and_eq_true, decide_eq_true_eq, beq_iff_eq] at h e
  rcases h with ⟨h1, h2⟩ | ⟨h1, _⟩
  · exact Prod.ext h1 h2
  · omega
theorem leq_iff {x y : I} : leqB x y = true ↔ (x.1 > x.2 ∨ (y.1 ≤ x.1 ∧ x.2 ≤ y.2)) := by simp [leqB, empB]
theorem leq_trans {x y z : I} (h : leqB x y = true) (k : leqB y z = true) : leqB x z = true := by
  rw [leq_iff] at *; omega
theorem has_le {x : I} {n : Int} : hasB x n = true ↔ x.1 ≤ n ∧ n ≤ x.2 := by simp [hasB]
theorem has_mono {x y : I} {n : Int} (h : leqB x y = true) (k : hasB x n = true) : hasB y n = true := by
  rw [leq_iff] at h; rw [has_le] at *; omega
theorem leq_anti {x y : I} (hx : isB x = true) (hy : isB y = true) (h : leqB x y = true) (k : leqB y x = true) : x = y := by
  cases ex : empB x with
  | true =>
    have e1 := isB_nn hx ex
    subst e1
    cases ey : empB y with
    | true => exact (isB_nn hy ey).symm
    | false =>
      rw [leq_iff] at k
      simp only [empB, decide_eq_false_iff_not] at ey
      simp only [nn] at k
      omega
  | false =>
    simp only [empB, decide_eq_false_iff_not] at ex
    rw [leq_iff] at h k
    exact Prod.ext (by omega) (by omega)
theorem allIx_iff {α : Type} (p : Nat → α → Bool) : ∀ (l : List α) (i : Nat), allIx p i l = true ↔ ∀ k d, l[k]? = some d → p (i + k) d = true
  | [], i => by simp [allIx]
  | d :: r, i => by
    unfold allIx
    rw [Bool.and_eq_true, allIx_iff p r (i + 1)]
    constructor
    · rintro ⟨h1, h2⟩ k x hk
      cases k with
      | zero => simp at hk; subst hk; exact h1
      | succ k => have := h2 k x (by simpa using hk); rwa [show i + 1 + k = i + (k + 1) by omega] at this
    · intro h
      refine ⟨h 0 d rfl, fun k x hk => ?_⟩
      have := h (k + 1) x (by simpa using hk)
      rwa [show i + (k + 1) = i + 1 + k by omega] at this
theorem atV_some {l : List I} {k : Nat} {d : I} (h : l[k]? = some d) : atV l (k : Nat) = d := by
  have hlt := (List.getElem?_eq_some_iff.1 h).1
  unfold atV
  rw [if_neg (by omega), Int.toNat_natCast, h]; rfl
theorem below_iff {a b : List I} (hl : a.length = b.length) : belowB a b = true ↔ ∀ (k : Nat) (x y : I), a[k]? = some x → b[k]? = some y → leqB x y = true := by
  unfold belowB
  rw [allIx_iff]
  constructor
  · intro h k x y hx hy
    have := h k x hx
    rw [Nat.zero_add, atV_some hy] at this
    exact this
  · intro h k x hx
    have hlt := (List.getElem?_eq_some_iff.1 hx).1
    have hy : b[k]? = some b[k] := List.getElem?_eq_getElem (by omega)
    rw [Nat.zero_add, atV_some hy]
    exact h k x _ hx hy
theorem below_trans {a b c : List I} (h1 : a.length = b.length) (h2 : b.length = c.length) (h : belowB a b = true) (k : belowB b c = true) : belowB a c = true := by
  rw [below_iff h1] at h
  rw [below_iff h2] at k
  rw [below_iff (h1.trans h2)]
  intro i x z hx hz
  have hlt := (List.getElem?_eq_some_iff.1 hx).1
  have hy : b[i]? = some b[i] := List.getElem?_eq_getElem (by omega)
  exact leq_trans (h i x _ hx hy) (k i _ z hy hz)
theorem below_anti {a b : List I} (hl : a.length = b.length) (ha : ∀ x ∈ a, isB x = true) (hb : ∀ x ∈ b, isB x = true) (h : belowB a b = true) (k : belowB b a = true) : a = b := by
  rw [below_iff hl] at h
  rw [below_iff hl.symm] at k
  apply List.ext_getElem? 
  intro i
  by_cases hi : i < a.length
  · have hx : a[i]? = some a[i] := List.getElem?_eq_getElem hi
    have hy : b[i]? = some b[i] := List.getElem?_eq_getElem (by omega)
    rw [hx, hy, leq_anti (ha _ (List.getElem_mem hi)) (hb _ (List.getElem_mem _)) (h i _ _ hx hy) (k i _ _ hy hx)]
  · rw [List.getElem?_eq_none (by omega), List.getElem?_eq_none (by omega)]
theorem eqRows_self (a : List I) : eqRows a a = true := by
  unfold eqRows
  rw [Bool.and_eq_true, allIx_iff]
  refine ⟨by simp, fun k d hk => ?_⟩
  rw [Nat.zero_add, hk]
  simp [eqI]
theorem and_bits (a b : Int) : BitVec.ofInt 64 (andV a b) = BitVec.ofInt 64 a &&& BitVec.ofInt 64 b := ofInt_wrap _
theorem within_bits {a b : Int} (h : withinB a b = true) : BitVec.ofInt 64 a &&& BitVec.ofInt 64 b = BitVec.ofInt 64 a ∧ IntKind.i64.wrap ((BitVec.ofInt 64 a).toNat : Int) = a := by
  have h : andV a b = a := by simpa [withinB] using h
  have e : BitVec.ofInt 64 a &&& BitVec.ofInt 64 b = BitVec.ofInt 64 a := by rw [← and_bits, h]
  refine ⟨e, ?_⟩
  have h2 : IntKind.i64.wrap ((BitVec.ofInt 64 a &&& BitVec.ofInt 64 b).toNat : Int) = a := h
  rw [e] at h2
  exact h2
theorem within_trans {a b c : Int} (h : withinB a b = true) (k : withinB b c = true) : withinB a c = true := by
  obtain ⟨h1, h2⟩ := within_bits h
  obtain ⟨k1, _⟩ := within_bits k
  have e : BitVec.ofInt 64 a &&& BitVec.ofInt 64 c = BitVec.ofInt 64 a := by
    rw [← h1, BitVec.and_assoc, k1]
  have e2 : andV a c = a := by
    show IntKind.i64.wrap ((BitVec.ofInt 64 a &&& BitVec.ofInt 64 c).toNat : Int) = a
    rw [e]; exact h2
  simp [withinB, e2]
theorem within_anti {a b : Int} (h : withinB a b = true) (k : withinB b a = true) : a = b := by
  obtain ⟨h1, h2⟩ := within_bits h
  obtain ⟨k1, k2⟩ := within_bits k
  rw [BitVec.and_comm, h1] at k1
  rw [← h2, ← k2, k1]
def goodE (f e : E) : Prop := e.2.1.length = f.2.1.length ∧ e.2.2.1.length = f.2.2.1.length ∧ e.2.2.2.1.length = f.2.2.2.1.length ∧ (∀ x ∈ e.2.1, isB x = true) ∧ (∀ x ∈ e.2.2.1, isB x = true) ∧ (∀ x ∈ e.2.2.2.1, isB x = true)
theorem fit_good {f e : E} (h : fitE f e = true) : goodE f e := by
  unfold fitE rowE at h
  simp only [Bool.and_eq_true, beq_iff_eq, List.all_eq_true, List.mem_append] at h
  obtain ⟨⟨⟨⟨_, h6⟩, h7⟩, h8⟩, h9⟩ := h
  exact ⟨h6, h7, h8, fun x hx => h9 x (.inl (.inl hx)), fun x hx => h9 x (.inl (.inr hx)), fun x hx => h9 x (.inr hx)⟩
theorem leqE_iff {a b : E} : leqE a b = true ↔ (a.1 = false ∨ (b.1 = true ∧ belowB a.2.1 b.2.1 = true ∧ belowB a.2.2.1 b.2.2.1 = true ∧ belowB a.2.2.2.1 b.2.2.2.1 = true ∧ withinB b.2.2.2.2.1 a.2.2.2.2.1 = true ∧ withinB a.2.2.2.2.2 b.2.2.2.2.2 = true)) := by
  unfold leqE; simp [and_assoc]
theorem leqE_trans {f a b c : E} (ha : goodE f a) (hb : goodE f b) (hc : goodE f c) (h : leqE a b = true) (k : leqE b c = true) : leqE a c = true := by
  rw [leqE_iff] at *
  rcases h with h | ⟨h0, h1, h2, h3, h4, h5⟩
  · exact .inl h
  · rcases k with k | ⟨k0, k1, k2, k3, k4, k5⟩
    · rw [h0] at k; cases k
    · exact .inr ⟨k0, below_trans (ha.1.trans hb.1.symm) (hb.1.trans hc.1.symm) h1 k1, below_trans (ha.2.1.trans hb.2.1.symm) (hb.2.1.trans hc.2.1.symm) h2 k2, below_trans (ha.2.2.1.trans hb.2.2.1.symm) (hb.2.2.1.trans hc.2.2.1.symm) h3 k3, within_trans k4 h4, within_trans h5 k5⟩
theorem leqE_same {f a b : E} (ha : goodE f a) (hb : goodE f b) (h : leqE a b = true) (k : leqE b a = true) : sameE a b = true := by
  rw [leqE_iff] at h k
  unfold sameE
  rcases h with h | ⟨h0, h1, h2, h3, h4, h5⟩
  · rcases k with k | ⟨k0, _⟩
    · rw [h, k]; rfl
    · rw [h] at k0; cases k0
  · rcases k with k | ⟨k0, k1, k2, k3, k4, k5⟩
    · rw [h0] at k; cases k
    · rw [h0, k0, below_anti (ha.1.trans hb.1.symm) ha.2.2.2.1 hb.2.2.2.1 h1 k1, below_anti (ha.2.1.trans hb.2.1.symm) ha.2.2.2.2.1 hb.2.2.2.2.1 h2 k2, below_anti (ha.2.2.1.trans hb.2.2.1.symm) ha.2.2.2.2.2 hb.2.2.2.2.2 h3 k3, within_anti k4 h4, within_anti h5 k5]
      simp [eqRows_self]
theorem leqE_has {f a b : E} (ha : goodE f a) (hb : goodE f b) {l : List Int} {n : Int} (h : leqE a b = true) (k : hasE a l n = true) : hasE b l n = true := by
  rw [leqE_iff] at h
  unfold hasE at k ⊢
  simp only [Bool.and_eq_true, allIx_iff, Nat.zero_add, beq_iff_eq] at k ⊢
  obtain ⟨⟨⟨⟨k1, k2⟩, k3⟩, k4⟩, k5⟩ := k
  rcases h with h | ⟨h0, h1, h2, h3, h4, h5⟩
  · rw [h] at k1; cases k1
  · have w1 : withinB b.2.2.2.2.1 n = true := within_trans h4 (by simp [withinB, k3])
    have w2 : withinB n b.2.2.2.2.2 = true := within_trans (by simp [withinB, k4]) h5
    have hl := ha.1.trans hb.1.symm
    refine ⟨⟨⟨⟨h0, k2.trans hl⟩, by simpa [withinB] using w1⟩, by simpa [withinB] using w2⟩, fun i d hd => ?_⟩
    have hlt := (List.getElem?_eq_some_iff.1 hd).1
    have hx : a.2.1[i]? = some (a.2.1[i]'(by omega)) := List.getElem?_eq_getElem _
    have hy : b.2.1[i]? = some (b.2.1[i]'(by omega)) := List.getElem?_eq_getElem _
    have := k5 i d hd
    rw [hx] at this
    rw [hy]
    rw [below_iff hl] at h1
    exact has_mono (h1 i _ _ hx hy) this
theorem fit_iff {n : Int} : fitB n = true ↔ -2147483648 ≤ n ∧ n ≤ 2147483647 := by simp [fitB]
theorem le_of_emp {x : I} (h : empB x = false) : x.1 ≤ x.2 := by simp only [empB, decide_eq_false_iff_not] at h; omega
theorem isB_ne {y : I} (h : isB y = true) (h' : y.1 ≤ y.2) : -2147483648 ≤ y.1 ∧ y.2 ≤ 2147483647 := by
  simp only [isB, fitB, Bool.and_eq_true, Bool.or_eq_true, decide_eq_true_eq, beq_iff_eq] at h; omega
theorem widS_spec (z : I) (l : List Int) (h1 : -2147483648 ≤ z.1) (h2 : z.2 ≤ 2147483647) :
    (((widS z l).1 = -2147483648 ∨ (widS z l).1 ∈ l) ∧ -2147483648 ≤ (widS z l).1 ∧ (widS z l).1 ≤ z.1) ∧ (((widS z l).2 = 2147483647 ∨ (widS z l).2 ∈ l) ∧ (widS z l).2 ≤ 2147483647 ∧ z.2 ≤ (widS z l).2) := by
  unfold widS
  suffices h : ∀ (r : List Int) (s : I), (∀ d ∈ r, d ∈ l) → ((s.1 = -2147483648 ∨ s.1 ∈ l) ∧ -2147483648 ≤ s.1 ∧ s.1 ≤ z.1) → ((s.2 = 2147483647 ∨ s.2 ∈ l) ∧ s.2 ≤ 2147483647 ∧ z.2 ≤ s.2) →
      let v := r.foldl (fun s d => if fitB d then (if d ≤ z.1 then mx s.1 d else s.1, if d ≥ z.2 then mn s.2 d else s.2) else (s.1, s.2)) s
      ((v.1 = -2147483648 ∨ v.1 ∈ l) ∧ -2147483648 ≤ v.1 ∧ v.1 ≤ z.1) ∧ ((v.2 = 2147483647 ∨ v.2 ∈ l) ∧ v.2 ≤ 2147483647 ∧ z.2 ≤ v.2) from
    h l aa (fun _ h => h) ⟨.inl rfl, by decide, h1⟩ ⟨.inl rfl, by decide, h2⟩
  intro r
  induction r with
  | nil => intro s _ k1 k2; exact ⟨k1, k2⟩
  | cons d r ih =>
    intro s hm k1 k2
    rw [List.foldl_cons]
    have hd := hm d (List.mem_cons_self)
    refine ih _ (fun n hn => hm n (List.mem_cons_of_mem _ hn)) ?_ ?_
    · by_cases hf : fitB d = true
      · rw [if_pos hf]
        have hf := fit_iff.1 hf
        simp only
        by_cases c : d ≤ z.1
        · rw [if_pos c]; unfold mx; split
          · exact ⟨.inr hd, by omega, c⟩
          · exact k1
        · rw [if_neg c]; exact k1
      · rw [if_neg hf]; exact k1
    · by_cases hf : fitB d = true
      · rw [if_pos hf]
        have hf := fit_iff.1 hf
        simp only
        by_cases c : d ≥ z.2
        · rw [if_pos c]; unfold mn; split
          · exact ⟨.inr hd, by omega, c⟩
          · exact k2
        · rw [if_neg c]; exact k2
      · rw [if_neg hf]; exact k2
theorem wid_spec {x y : I} (hx : isB x = true) (hy : isB y = true) (ex : empB x = false) (ey : empB y = false) (l : List Int) :
    ((widV x y l).1 = x.1 ∨ ((widV x y l).1 < x.1 ∧ ((widV x y l).1 = -2147483648 ∨ (widV x y l).1 ∈ l) ∧ y.1 < x.1)) ∧ -2147483648 ≤ (widV x y l).1 ∧ (widV x y l).1 ≤ y.1 ∧
    ((widV x y l).2 = x.2 ∨ ((widV x y l).2 > x.2 ∧ ((widV x y l).2 = 2147483647 ∨ (widV x y l).2 ∈ l) ∧ y.2 > x.2)) ∧ (widV x y l).2 ≤ 2147483647 ∧ y.2 ≤ (widV x y l).2 := by
  have bx := isB_ne hx (le_of_emp ex)
  have by' := isB_ne hy (le_of_emp ey)
  have lx := le_of_emp ex
  have ly := le_of_emp ey
  have ej : iJoin x y = (mn x.1 y.1, mx x.2 y.2) := by unfold iJoin; rw [ex, ey]; rfl
  have m1 : mn x.1 y.1 ≤ x.1 ∧ mn x.1 y.1 ≤ y.1 ∧ (mn x.1 y.1 = x.1 ∨ mn x.1 y.1 = y.1) := by unfold mn; split <;> omega
  have m2 : x.2 ≤ mx x.2 y.2 ∧ y.2 ≤ mx x.2 y.2 ∧ (mx x.2 y.2 = x.2 ∨ mx x.2 y.2 = y.2) := by unfold mx; split <;> omega
  obtain ⟨⟨s1, s2, s3⟩, t1, t2, t3⟩ := widS_spec (mn x.1 y.1, mx x.2 y.2) l (by simp only; omega) (by simp only; omega)
  unfold widV
  rw [ex, ey, ej]
  simp only [Bool.false_eq_true, if_false] at s3 t3 ⊢
  refine ⟨?_, ?_, ?_, ?_, ?_, ?_⟩
  · by_cases c : mn x.1 y.1 < x.1
    · rw [if_pos c]; right; exact ⟨by omega, s1, by omega⟩
    · rw [if_neg c]; left; omega
  · split <;> omega
  · split <;> omega
  · by_cases c : mx x.2 y.2 > x.2
    · rw [if_pos c]; right; exact ⟨by omega, t1, by omega⟩
    · rw [if_neg c]; left; omega
  · split <;> omega
  · split <;> omega
theorem isB_ends {x : I} (h : isB x = true) : x.1 ≤ 2147483647 ∧ -2147483648 ≤ x.2 ∧ -2147483648 ≤ x.1 ∧ x.2 ≤ 2147483647 := by
  cases e : empB x with
  | true => rw [isB_nn h e]; decide
  | false => have := le_of_emp e; have := isB_ne h (le_of_emp e); omega
theorem widS_eq (z : I) (hz1 : z.1 ≤ 2147483647) (hz2 : -2147483648 ≤ z.2) (l : List Int) : widS z l = rwidS z l := by
  unfold widS rwidS
  suffices h : ∀ (l : List Int) (s : I), -2147483648 ≤ s.1 → s.2 ≤ 2147483647 →
      l.foldl (fun s d => if fitB d then (if d ≤ z.1 then mx s.1 d else s.1, if d ≥ z.2 then mn s.2 d else s.2) else (s.1, s.2)) s = l.foldl (fun s d => (if d ≤ z.1 ∧ d > s.1 then d else s.1, if d ≥ z.2 ∧ d < s.2 then d else s.2)) s from
    h l aa (by decide) (by decide)
  intro l
  induction l with
  | nil => intros; rfl
  | cons d r ih =>
    intro s h1 h2
    rw [List.foldl_cons, List.foldl_cons]
    have e : (if fitB d = true then (if d ≤ z.1 then mx s.1 d else s.1, if d ≥ z.2 then mn s.2 d else s.2) else (s.1, s.2)) = ((if d ≤ z.1 ∧ d > s.1 then d else s.1, if d ≥ z.2 ∧ d < s.2 then d else s.2) : I) := by
      by_cases hf : fitB d = true
      · rw [if_pos hf]
        unfold mx mn
        simp only [Prod.mk.injEq]
        constructor <;> (repeat' split) <;> omega
      · rw [if_neg hf]
        have hf' : ¬ (-2147483648 ≤ d ∧ d ≤ 2147483647) := fun k => hf (fit_iff.2 k)
        rw [if_neg (by omega), if_neg (by omega)]
    rw [e]
    refine ih _ ?_ ?_
    · simp only; split <;> omega
    · simp only; split <;> omega
theorem iff_isB {x : I} : isB x = true ↔ ((x.1 = 1 ∧ x.2 = 0) ∨ (x.1 ≤ x.2 ∧ -2147483648 ≤ x.1 ∧ x.2 ≤ 2147483647)) := by
  simp only [isB, fitB, Bool.or_eq_true, Bool.and_eq_true, decide_eq_true_eq, beq_iff_eq]
  constructor <;> intro h <;> omega
theorem join_up1 (x y : I) : leqB x (iJoin x y) = true := by
  rw [leq_iff]; unfold iJoin empB mn mx nn; simp only [decide_eq_true_eq]; (repeat' split) <;> first | (simp only; omega) | omega | simp
theorem join_up2 (x y : I) : leqB y (iJoin x y) = true := by
  rw [leq_iff]; unfold iJoin empB mn mx nn; simp only [decide_eq_true_eq]; (repeat' split) <;> first | (simp only; omega) | omega | simp
theorem join_is {x y : I} (hx : isB x = true) (hy : isB y = true) : isB (iJoin x y) = true := by
  rw [iff_isB] at *; unfold iJoin empB mn mx nn; simp only [decide_eq_true_eq]; (repeat' split) <;> first | (simp only; omega) | omega | simp
theorem rjoin_is {x y : I} (hx : isB x = true) (hy : isB y = true) : isB (rJoin x y) = true := by
  rw [iff_isB] at *; unfold rJoin empB mn mx; simp only [decide_eq_true_eq]; (repeat' split) <;> first | (simp only; omega) | omega | simp
theorem join_eq {x y : I} (hy : isB y = true) : iJoin x y = rJoin x y := by
  unfold iJoin rJoin
  cases ex : empB x <;> cases ey : empB y <;> first | rfl | exact (isB_nn hy ey).symm
theorem wid_eq {x y : I} (hx : isB x = true) (hy : isB y = true) (l : List Int) : widV x y l = rwidV x y l := by
  unfold widV rwidV
  rw [join_eq hy, widS_eq _ (isB_ends (rjoin_is hx hy)).1 (isB_ends (rjoin_is hx hy)).2.1]

theorem wid_up {x y : I} (hx : isB x = true) (hy : isB y = true) (l : List Int) : leqB (iJoin x y) (widV x y l) = true ∧ isB (widV x y l) = true := by
  cases ey : empB y with
  | true =>
    have e : widV x y l = x := by unfold widV; rw [ey]; rfl
    rw [e]
    refine ⟨?_, hx⟩
    have := isB_nn hy ey
    subst this
    rw [leq_iff]; unfold iJoin empB nn; simp only [decide_eq_true_eq]; (repeat' split) <;> (try simp only at *) <;> omega
  | false =>
    cases ex : empB x with
    | true =>
      have e : widV x y l = y := by unfold widV; rw [ey, ex]; rfl
      rw [e]
      refine ⟨?_, hy⟩
      have e2 : iJoin x y = y := by unfold iJoin; rw [ex, ey]; rfl
      rw [e2, leq_iff]; omega
    | false =>
      obtain ⟨w1, w2, w3, w4, w5, w6⟩ := wid_spec hx hy ex ey l
      have lx := le_of_emp ex
      have ly := le_of_emp ey
      have bx := isB_ne hx lx
      have e2 : iJoin x y = (mn x.1 y.1, mx x.2 y.2) := by unfold iJoin; rw [ex, ey]; rfl
      rw [e2, leq_iff, iff_isB]
      unfold mn mx
      simp only
      refine ⟨.inr ⟨?_, ?_⟩, .inr ?_⟩
      · split <;> omega
      · split <;> omega
      · omega
theorem get_mapIx (f : Nat → I → I) : ∀ (l : List I) (i k : Nat), (mapIx f i l)[k]? = (l[k]?).map (f (i + k))
  | [], i, k => by simp [mapIx]
  | d :: r, i, 0 => by simp [mapIx]
  | d :: r, i, k + 1 => by
    rw [mapIx, List.getElem?_cons_succ, get_mapIx f r (i + 1) k, List.getElem?_cons_succ, show i + 1 + k = i + (k + 1) by omega]
theorem widR_eq (a b : List I) (st : List Int) : widR a b st = mapIx (fun i d => widV d (atV b (i : Nat)) st) 0 a := by unfold widR; rw [foldIx_app]; rfl
theorem rwidR_eq (a b : List I) (st : List Int) : rwidR a b st = mapIx (fun i d => rwidV d (atV b (i : Nat)) st) 0 a := by unfold rwidR; rw [foldIx_app]; rfl
theorem len_joinR (a b : List I) : (joinR a b).length = a.length := by rw [joinR_eq, mapIx_len]
theorem len_widR (a b : List I) (st : List Int) : (widR a b st).length = a.length := by rw [widR_eq, mapIx_len]
def allB (l : List I) : Prop := ∀ x ∈ l, isB x = true
theorem at_is {b : List I} {k : Nat} (hb : allB b) (hk : k < b.length) : isB (atV b (k : Nat)) = true := by
  rw [atV_some (List.getElem?_eq_getElem hk)]; exact hb _ (List.getElem_mem _)
theorem mapIx_all {f : Nat → I → I} {a : List I} (h : ∀ k d, a[k]? = some d → isB (f k d) = true) : allB (mapIx f 0 a) := by
  intro x hx
  obtain ⟨k, hk⟩ := List.mem_iff_getElem?.1 hx
  rw [get_mapIx, Nat.zero_add] at hk
  cases hd : a[k]? with
  | none => rw [hd] at hk; cases hk
  | some d => rw [hd] at hk; simp only [Option.map_some, Option.some.injEq] at hk; subst hk; exact h k d hd
theorem joinR_all {a b : List I} (hl : a.length = b.length) (ha : allB a) (hb : allB b) : allB (joinR a b) := by
  rw [joinR_eq]
  exact mapIx_all fun k d hd => join_is (ha d (List.mem_of_getElem? hd)) (at_is hb (by have := (List.getElem?_eq_some_iff.1 hd).1; omega))
theorem widR_all {a b : List I} (st : List Int) (hl : a.length = b.length) (ha : allB a) (hb : allB b) : allB (widR a b st) := by
  rw [widR_eq]
  exact mapIx_all fun k d hd => (wid_up (ha d (List.mem_of_getElem? hd)) (at_is hb (by have := (List.getElem?_eq_some_iff.1 hd).1; omega)) st).2
theorem row_join1 {a b : List I} : belowB a (joinR a b) = true := by
  rw [below_iff (len_joinR a b).symm, joinR_eq]
  intro k x y hx hy
  rw [get_mapIx, hx] at hy
  simp only [Option.map_some, Option.some.injEq] at hy
  subst hy; exact join_up1 _ _
theorem row_join2 {a b : List I} (hl : a.length = b.length) : belowB b (joinR a b) = true := by
  rw [below_iff (hl.symm.trans (len_joinR a b).symm), joinR_eq]
  intro k x y hx hy
  have hlt := (List.getElem?_eq_some_iff.1 hx).1
  rw [get_mapIx, List.getElem?_eq_getElem (show k < a.length by omega)] at hy
  simp only [Option.map_some, Option.some.injEq, Nat.zero_add] at hy
  subst hy
  rw [atV_some hx]; exact join_up2 _ _
theorem row_wid {a b : List I} (st : List Int) (hl : a.length = b.length) (ha : allB a) (hb : allB b) : belowB (joinR a b) (widR a b st) = true := by
  rw [below_iff ((len_joinR a b).trans (len_widR a b st).symm), joinR_eq, widR_eq]
  intro k x y hx hy
  rw [get_mapIx] at hx hy
  cases hd : a[k]? with
  | none => rw [hd] at hx; cases hx
  | some d =>
    rw [hd] at hx hy
    simp only [Option.map_some, Option.some.injEq, Nat.zero_add] at hx hy
    subst hx hy
    exact (wid_up (ha d (List.mem_of_getElem? hd)) (at_is hb (by have := (List.getElem?_eq_some_iff.1 hd).1; omega)) st).1
theorem or_bits (a b : Int) : BitVec.ofInt 64 (orV a b) = BitVec.ofInt 64 a ||| BitVec.ofInt 64 b := ofInt_wrap _
theorem wrap_ofInt {a : Int} (h0 : 0 ≤ a) (h1 : a < 2147483648) : IntKind.i64.wrap ((BitVec.ofInt 64 a).toNat : Int) = a := by
  have h : ∀ n : Int, IntKind.i64.wrap n = (n + 9223372036854775808) % 18446744073709551616 - 9223372036854775808 := by
    intro n
    simp [IntKind.wrap, IntKind.signed, IntKind.bits]
    split <;> omega
  rw [h, BitVec.toNat_ofInt]
  omega
theorem within_self_bits {x : Int} (h : IntKind.i64.wrap ((BitVec.ofInt 64 x).toNat : Int) = x) : withinB x x = true := by
  have : andV x x = x := by
    show IntKind.i64.wrap ((BitVec.ofInt 64 x &&& BitVec.ofInt 64 x).toNat : Int) = x
    rw [BitVec.and_self]; exact h
  simp [withinB, this]
theorem and_good (a b : Int) : IntKind.i64.wrap ((BitVec.ofInt 64 (andV a b)).toNat : Int) = andV a b := by rw [and_bits]; rfl
theorem or_good (a b : Int) : IntKind.i64.wrap ((BitVec.ofInt 64 (orV a b)).toNat : Int) = orV a b := by rw [or_bits]; rfl
theorem within_and1 (a b : Int) : withinB (andV a b) a = true := by
  have : andV (andV a b) a = andV a b := by
    show IntKind.i64.wrap ((BitVec.ofInt 64 (andV a b) &&& BitVec.ofInt 64 a).toNat : Int) = _
    rw [and_bits, BitVec.and_assoc, BitVec.and_comm (BitVec.ofInt 64 b), ← BitVec.and_assoc, BitVec.and_self]; rfl
  simp [withinB, this]
theorem within_and2 (a b : Int) : withinB (andV a b) b = true := by
  have : andV (andV a b) b = andV a b := by
    show IntKind.i64.wrap ((BitVec.ofInt 64 (andV a b) &&& BitVec.ofInt 64 b).toNat : Int) = _
    rw [and_bits, BitVec.and_assoc, BitVec.and_self]; rfl
  simp [withinB, this]
theorem and_or_self (x y : BitVec 64) : x &&& (x ||| y) = x := by
  apply BitVec.eq_of_getLsbD_eq
  intro i hi
  simp only [BitVec.getLsbD_and, BitVec.getLsbD_or]
  cases x.getLsbD i <;> rfl
theorem within_or1 {a : Int} (b : Int) (h : IntKind.i64.wrap ((BitVec.ofInt 64 a).toNat : Int) = a) : withinB a (orV a b) = true := by
  have : andV a (orV a b) = a := by
    show IntKind.i64.wrap ((BitVec.ofInt 64 a &&& BitVec.ofInt 64 (orV a b)).toNat : Int) = _
    rw [or_bits, and_or_self]; exact h
  simp [withinB, this]
theorem within_or2 (a : Int) {b : Int} (h : IntKind.i64.wrap ((BitVec.ofInt 64 b).toNat : Int) = b) : withinB b (orV a b) = true := by
  have : andV b (orV a b) = b := by
    show IntKind.i64.wrap ((BitVec.ofInt 64 b &&& BitVec.ofInt 64 (orV a b)).toNat : Int) = _
    rw [or_bits, BitVec.or_comm, and_or_self]; exact h
  simp [withinB, this]
def bitsOk (e : E) : Prop := IntKind.i64.wrap ((BitVec.ofInt 64 e.2.2.2.2.1).toNat : Int) = e.2.2.2.2.1 ∧ IntKind.i64.wrap ((BitVec.ofInt 64 e.2.2.2.2.2).toNat : Int) = e.2.2.2.2.2
theorem fit_bits {f e : E} (h : fitE f e = true) : bitsOk e := by
  unfold fitE at h
  simp only [Bool.and_eq_true, Bool.not_eq_true', decide_eq_false_iff_not] at h
  obtain ⟨⟨⟨⟨⟨⟨⟨⟨_, h1⟩, h2⟩, h3⟩, h4⟩, _⟩, _⟩, _⟩, _⟩ := h
  exact ⟨wrap_ofInt (by omega) (by omega), wrap_ofInt (by omega) (by omega)⟩
theorem below_self (a : List I) : belowB a a = true := by
  rw [below_iff rfl]
  intro k x y hx hy
  rw [hx] at hy; cases hy
  rw [leq_iff]; omega
theorem leqE_self {a : E} (h : bitsOk a) : leqE a a = true := by
  rw [leqE_iff]
  cases a.1
  · exact .inl rfl
  · exact .inr ⟨rfl, below_self _, below_self _, below_self _, within_self_bits h.1, within_self_bits h.2⟩
theorem merge_up1 {a b : E} (h : bitsOk a) : leqE a (mergeE a b) = true := by
  rw [leqE_iff]
  exact .inr ⟨rfl, row_join1, row_join1, row_join1, within_and1 _ _, within_or1 _ h.2⟩
theorem merge_up2 {f a b : E} (ga : goodE f a) (gb : goodE f b) (h : bitsOk b) : leqE b (mergeE a b) = true := by
  rw [leqE_iff]
  exact .inr ⟨rfl, row_join2 (ga.1.trans gb.1.symm), row_join2 (ga.2.1.trans gb.2.1.symm), row_join2 (ga.2.2.1.trans gb.2.2.1.symm), within_and2 _ _, within_or2 _ h.2⟩
theorem merge_good {f a b : E} (ga : goodE f a) (gb : goodE f b) : goodE f (mergeE a b) :=
  ⟨(len_joinR _ _).trans ga.1, (len_joinR _ _).trans ga.2.1, (len_joinR _ _).trans ga.2.2.1, joinR_all (ga.1.trans gb.1.symm) ga.2.2.2.1 gb.2.2.2.1, joinR_all (ga.2.1.trans gb.2.1.symm) ga.2.2.2.2.1 gb.2.2.2.2.1, joinR_all (ga.2.2.1.trans gb.2.2.1.symm) ga.2.2.2.2.2 gb.2.2.2.2.2⟩
theorem merge_bits (a b : E) : bitsOk (mergeE a b) := ⟨and_good _ _, or_good _ _⟩
theorem wmerge_good {f a b : E} (st : List Int) (ga : goodE f a) (gb : goodE f b) : goodE f (wmergeE a b st) :=
  ⟨(len_widR _ _ _).trans ga.1, (len_widR _ _ _).trans ga.2.1, (len_widR _ _ _).trans ga.2.2.1, widR_all st (ga.1.trans gb.1.symm) ga.2.2.2.1 gb.2.2.2.1, widR_all st (ga.2.1.trans gb.2.1.symm) ga.2.2.2.2.1 gb.2.2.2.2.1, widR_all st (ga.2.2.1.trans gb.2.2.1.symm) ga.2.2.2.2.2 gb.2.2.2.2.2⟩
theorem wmerge_bits (a b : E) (st : List Int) : bitsOk (wmergeE a b st) := ⟨and_good _ _, or_good _ _⟩
theorem merge_wmerge {f a b : E} (st : List Int) (ga : goodE f a) (gb : goodE f b) : leqE (mergeE a b) (wmergeE a b st) = true := by
  rw [leqE_iff]
  exact .inr ⟨rfl, row_wid st (ga.1.trans gb.1.symm) ga.2.2.2.1 gb.2.2.2.1, row_wid st (ga.2.1.trans gb.2.1.symm) ga.2.2.2.2.1 gb.2.2.2.2.1, row_wid st (ga.2.2.1.trans gb.2.2.1.symm) ga.2.2.2.2.2 gb.2.2.2.2.2, within_self_bits (and_good _ _), within_self_bits (or_good _ _)⟩
def zz : E := (false, [], [], [], 0, 0)
theorem bits_zz : bitsOk zz := ⟨wrap_ofInt (by decide) (by decide), wrap_ofInt (by decide) (by decide)⟩
theorem join2 (a b : E) : joinL [a, b] = bif !a.1 then (bif !b.1 then zz else b) else (bif !b.1 then a else mergeE a b) := by
  unfold joinL joinE zz
  simp only [List.foldl_cons, List.foldl_nil]
  cases ha : a.1 <;> cases hb : b.1 <;> simp [ha]
theorem wid2 (a b : E) (st : List Int) : widE a b st = bif !a.1 then (bif !b.1 then zz else b) else (bif !b.1 then a else wmergeE a b st) := by
  unfold widE
  rw [join2]
  cases ha : a.1 <;> cases hb : b.1 <;> rfl
theorem off_leq {a b : E} (h : a.1 = false) : leqE a b = true := by rw [leqE_iff]; exact .inl h
theorem below_okL {a b : List I} (h : a.length = b.length) : okL a = okL b := by unfold okL; rw [h]
theorem good_lens {f e : E} (h : fitE f e = true) : e.2.1.length ≤ 120 ∧ e.2.2.1.length ≤ 120 ∧ e.2.2.2.1.length ≤ 120 := by
  unfold fitE at h
  simp only [Bool.and_eq_true, Bool.not_eq_true', decide_eq_false_iff_not] at h
  obtain ⟨⟨⟨⟨⟨⟨⟨⟨h0, h1⟩, h2⟩, h3⟩, h4⟩, _⟩, _⟩, _⟩, _⟩ := h
  omega
theorem okRE_of {e : E} (h : e.2.1.length ≤ 120 ∧ e.2.2.1.length ≤ 120 ∧ e.2.2.2.1.length ≤ 120) : okRE e = true := by
  unfold okRE okR; simp only [Bool.and_eq_true, decide_eq_true_eq]; omega
theorem okE_of {e : E} (h : e.2.1.length ≤ 120 ∧ e.2.2.1.length ≤ 120 ∧ e.2.2.2.1.length ≤ 120) : okE e = true := by
  unfold okE okL; simp only [Bool.and_eq_true, decide_eq_true_eq]; omega
end Go.Proofs.Ytpahnadbknjepaa.Ex

