/- A part of the proofs of the laws of environments: XI. -/
import Derived.Test.YtpahnadbknjepaaXG
import Derived.Test.YtpahnadbknjepaaXC
import Derived.Test.YtpahnadbknjepaaXE
/- Loops P: where each round begins. -/
namespace Go.Proofs.Ytpahnadbknjepaa.Ex
open Go.Proofs Go.Proofs.Ytpahnadbknjepaa
set_option maxRecDepth 100000
set_option linter.unusedVariables false
set_option linter.unusedSimpArgs false
def keepL42j : List Nat := [0, 11, 10, 7, 2, 1, 6]
noncomputable def FL42j (base : Nat) : Tm → Prog (Nat × Tm) := evC cxL (evF cxL keeps 3) ⟨42, 28, keeps 42, base⟩ 0 (bodyX 42 0)
def TL42j (a : List I) (i : Int) (n : Int) (b : List I) : Tm := [(0, .sl (.st (.pair (.int .i64) (.int .i64))) a), (11, .int .i64 i), (10, .int .i64 n), (7, .row 0), (2, .clo 25 [] []), (1, .sl (.st (.pair (.int .i64) (.int .i64))) b), (6, .nil)]
def HL42j (o : List I) : Hp := ⟨[(0, .row (.st (.pair (.int .i64) (.int .i64))) o)], 1⟩
def keepL21 : List Nat := [6, 0, 5, 1, 4]
noncomputable def FL21 (base : Nat) : Tm → Prog (Nat × Tm) := evC cxL (evF cxL keeps 3) ⟨21, 25, keeps 21, base⟩ 0 (bodyX 21 0)
def TL21 (i : Int) (a : List I) (b : List I) : Tm := [(6, .int .i64 i), (0, .sl (.st (.pair (.int .i64) (.int .i64))) a), (5, .row 0), (1, .sl (.st (.pair (.int .i64) (.int .i64))) b), (4, .nil)]
def HL21 (o : List I) : Hp := ⟨[(0, .row (.st (.pair (.int .i64) (.int .i64))) o)], 1⟩
end Go.Proofs.Ytpahnadbknjepaa.Ex

/- Loops P: each round. -/
namespace Go.Proofs.Ytpahnadbknjepaa.Ex
open Go.Proofs Go.Proofs.Ytpahnadbknjepaa
set_option maxRecDepth 100000
set_option linter.unusedVariables false
set_option linter.unusedSimpArgs false
theorem rnd42j {R : Type} (a : List I) (i : Int) (n : Int) (b : List I) (o : List I) (K : Nat → Tm → Hp → Option R) : round 0 keepL42j (FL42j 0) (TL42j a i n b) (HL42j o) K =
  bif Decidable.decide (i < n) then
    bif Decidable.decide (0 ≤ i) then
      Go.Proofs.Ytpahnadbknjepaa.Ex.optC a[i.toNat]? Option.none fun d7 ↦
        bif Decidable.decide (0 ≤ i) then
          bif Decidable.decide ((o.length + [Go.Proofs.Ytpahnadbknjepaa.Ex.iJoin d7 (Go.Proofs.Ytpahnadbknjepaa.Ex.atV b i)].length + 1) * 16 ≤ Go.Proofs.Ytpahnadbknjepaa.Ex.lim) then
            K 0
              [(0, Go.Proofs.Ytpahnadbknjepaa.Ex.AV.sl ((Go.Proofs.Ytpahnadbknjepaa.Ex.Ty.int Go.IntKind.i64).pair (Go.Proofs.Ytpahnadbknjepaa.Ex.Ty.int Go.IntKind.i64)).st a), (11, Go.Proofs.Ytpahnadbknjepaa.Ex.AV.int Go.IntKind.i64 (Go.IntKind.i64.wrap (i + 1))),
                (10, Go.Proofs.Ytpahnadbknjepaa.Ex.AV.int Go.IntKind.i64 n), (7, Go.Proofs.Ytpahnadbknjepaa.Ex.AV.row 0), (2, Go.Proofs.Ytpahnadbknjepaa.Ex.AV.clo 25 [] []), (1, Go.Proofs.Ytpahnadbknjepaa.Ex.AV.sl ((Go.Proofs.Ytpahnadbknjepaa.Ex.Ty.int Go.IntKind.i64).pair (Go.Proofs.Ytpahnadbknjepaa.Ex.Ty.int Go.IntKind.i64)).st b),
                (6, Go.Proofs.Ytpahnadbknjepaa.Ex.AV.nil)]
              { blks := [(0, Go.Proofs.Ytpahnadbknjepaa.Ex.Blk.row ((Go.Proofs.Ytpahnadbknjepaa.Ex.Ty.int Go.IntKind.i64).pair (Go.Proofs.Ytpahnadbknjepaa.Ex.Ty.int Go.IntKind.i64)).st (o ++ [Go.Proofs.Ytpahnadbknjepaa.Ex.iJoin d7 (Go.Proofs.Ytpahnadbknjepaa.Ex.atV b i)]))], c := 1 }
          else Option.none
        else Option.none
    else Option.none
  else
    K 2
      [(0, Go.Proofs.Ytpahnadbknjepaa.Ex.AV.sl ((Go.Proofs.Ytpahnadbknjepaa.Ex.Ty.int Go.IntKind.i64).pair (Go.Proofs.Ytpahnadbknjepaa.Ex.Ty.int Go.IntKind.i64)).st a), (11, Go.Proofs.Ytpahnadbknjepaa.Ex.AV.int Go.IntKind.i64 i), (10, Go.Proofs.Ytpahnadbknjepaa.Ex.AV.int Go.IntKind.i64 n), (7, Go.Proofs.Ytpahnadbknjepaa.Ex.AV.row 0),
        (2, Go.Proofs.Ytpahnadbknjepaa.Ex.AV.clo 25 [] []), (1, Go.Proofs.Ytpahnadbknjepaa.Ex.AV.sl ((Go.Proofs.Ytpahnadbknjepaa.Ex.Ty.int Go.IntKind.i64).pair (Go.Proofs.Ytpahnadbknjepaa.Ex.Ty.int Go.IntKind.i64)).st b), (6, Go.Proofs.Ytpahnadbknjepaa.Ex.AV.nil)]
      { blks := [(0, Go.Proofs.Ytpahnadbknjepaa.Ex.Blk.row ((Go.Proofs.Ytpahnadbknjepaa.Ex.Ty.int Go.IntKind.i64).pair (Go.Proofs.Ytpahnadbknjepaa.Ex.Ty.int Go.IntKind.i64)).st o)], c := 1 } := by kernel_rfl
theorem rnd21 {R : Type} (i : Int) (a : List I) (b : List I) (o : List I) (K : Nat → Tm → Hp → Option R) : round 0 keepL21 (FL21 0) (TL21 i a b) (HL21 o) K =
  bif Decidable.decide (i < (↑a.length : Int)) then
    bif Decidable.decide (0 ≤ i) then
      Go.Proofs.Ytpahnadbknjepaa.Ex.optC a[i.toNat]? Option.none fun d6 ↦
        bif Decidable.decide (0 ≤ i) then
          bif Decidable.decide ((o.length + [Go.Proofs.Ytpahnadbknjepaa.Ex.rJoin d6 (Go.Proofs.Ytpahnadbknjepaa.Ex.atV b i)].length + 1) * 16 ≤ Go.Proofs.Ytpahnadbknjepaa.Ex.lim) then
            K 0
              [(6, Go.Proofs.Ytpahnadbknjepaa.Ex.AV.int Go.IntKind.i64 (Go.IntKind.i64.wrap (i + 1))), (0, Go.Proofs.Ytpahnadbknjepaa.Ex.AV.sl ((Go.Proofs.Ytpahnadbknjepaa.Ex.Ty.int Go.IntKind.i64).pair (Go.Proofs.Ytpahnadbknjepaa.Ex.Ty.int Go.IntKind.i64)).st a), (5, Go.Proofs.Ytpahnadbknjepaa.Ex.AV.row 0),
                (1, Go.Proofs.Ytpahnadbknjepaa.Ex.AV.sl ((Go.Proofs.Ytpahnadbknjepaa.Ex.Ty.int Go.IntKind.i64).pair (Go.Proofs.Ytpahnadbknjepaa.Ex.Ty.int Go.IntKind.i64)).st b), (4, Go.Proofs.Ytpahnadbknjepaa.Ex.AV.nil)]
              { blks := [(0, Go.Proofs.Ytpahnadbknjepaa.Ex.Blk.row ((Go.Proofs.Ytpahnadbknjepaa.Ex.Ty.int Go.IntKind.i64).pair (Go.Proofs.Ytpahnadbknjepaa.Ex.Ty.int Go.IntKind.i64)).st (o ++ [Go.Proofs.Ytpahnadbknjepaa.Ex.rJoin d6 (Go.Proofs.Ytpahnadbknjepaa.Ex.atV b i)]))], c := 1 }
          else Option.none
        else Option.none
    else Option.none
  else
    K 2
      [(6, Go.Proofs.Ytpahnadbknjepaa.Ex.AV.int Go.IntKind.i64 i), (0, Go.Proofs.Ytpahnadbknjepaa.Ex.AV.sl ((Go.Proofs.Ytpahnadbknjepaa.Ex.Ty.int Go.IntKind.i64).pair (Go.Proofs.Ytpahnadbknjepaa.Ex.Ty.int Go.IntKind.i64)).st a), (5, Go.Proofs.Ytpahnadbknjepaa.Ex.AV.row 0),
        (1, Go.Proofs.Ytpahnadbknjepaa.Ex.AV.sl ((Go.Proofs.Ytpahnadbknjepaa.Ex.Ty.int Go.IntKind.i64).pair (Go.Proofs.Ytpahnadbknjepaa.Ex.Ty.int Go.IntKind.i64)).st b), (4, Go.Proofs.Ytpahnadbknjepaa.Ex.AV.nil)]
      { blks := [(0, Go.Proofs.Ytpahnadbknjepaa.Ex.Blk.row ((Go.Proofs.Ytpahnadbknjepaa.Ex.Ty.int Go.IntKind.i64).pair (Go.Proofs.Ytpahnadbknjepaa.Ex.Ty.int Go.IntKind.i64)).st o)], c := 1 } := by kernel_rfl
end Go.Proofs.Ytpahnadbknjepaa.Ex

/- Loops P: what they come to. -/
namespace Go.Proofs.Ytpahnadbknjepaa.Ex
open Go.Proofs Go.Proofs.Ytpahnadbknjepaa
set_option maxRecDepth 100000
set_option linter.unusedVariables false
set_option linter.unusedSimpArgs false
def stepL42j (b : List I)  (i : Nat) (o : List I) (d : I) : List I := o ++ [iJoin d (atV b (i : Nat))]
def allL42j (b : List I) (l0 : List I) : Bool := l0.all fun d => decide (l0.length ≤ 1099511627776)
def vL42j (b : List I) (a : List I) (s : List I) : List I := foldIx (fun i s d => stepL42j b  i (s) d) 0 a s
theorem runL42j (b : List I) (a : List I) (hl : a.length ≤ 4611686018427387904) (ha : allL42j b a = true) (s : List I) (hI : (s).length = 0) :
    go (iterM 0 keepL42j (FL42j 0) (a.length + 1) (TL42j a 0 (a.length : Nat) b)) (HL42j (s)) = some ((((2, TL42j a (a.length : Nat) (a.length : Nat) b), HL42j ((vL42j b a s))) : Out3)) := by
  have key := range_loop (keep := keepL42j) (F := FL42j 0) (fun i s => (s).length = i) a (fun i s => TL42j a (i : Nat) (a.length : Nat) b) (fun i s => HL42j (s)) (fun i s d => .inl (stepL42j b  i (s) d)) (fun s => (((2, TL42j a (a.length : Nat) (a.length : Nat) b), HL42j (s)) : Out3)) ?_ ?_ ?_ ?_ ?_ a 0 s rfl (Nat.zero_le _) hI
  · rw [runL_ix] at key
    exact key
  · intro i s d hi hd hm hI K
    have ha := List.all_eq_true.1 ha d hm
    rw [rnd42j]
    have e1 : decide ((i : Int) < ((a.length : Nat) : Int)) = true := decide_eq_true (by omega)
    have e2 : decide (0 ≤ (i : Int)) = true := decide_eq_true (by omega)
    rw [e1, e2, Int.toNat_natCast, wrap_up hi hl]
    rw [hd]; simp only [optC, cond_true]; have ha := of_decide_eq_true ha
    have hq : ∀ x : I, decide ((s.length + [x].length + 1) * 16 ≤ lim) = true := fun x => decide_eq_true (by simp only [List.length_singleton]; unfold lim; omega)
    rw [hq]
    rfl
  · intro i s d s' _ hI e; cases e; unfold stepL42j; simp; exact hI
  · intro i s d x e; cases e
  · intro s K
    rw [rnd42j]
    have e1 : decide (((a.length : Nat) : Int) < ((a.length : Nat) : Int)) = false := decide_eq_false (by omega)
    rw [e1]
    rfl
  · intro s; exact nofun
def dT42j : Tm → Option (List I × Int × Int × List I)
  | [(0, .sl (.st (.pair (.int .i64) (.int .i64))) a), (11, .int .i64 i), (10, .int .i64 n), (7, .row 0), (2, .clo 25 [] []), (1, .sl (.st (.pair (.int .i64) (.int .i64))) b), (6, .nil)] => some (a, i, n, b)
  | _ => none
def dH42j : Hp → Option (List I)
  | ⟨[(0, .row (.st (.pair (.int .i64) (.int .i64))) o)], 1⟩ => some o
  | _ => none
theorem dT42j_some {T : Tm} {t : List I × Int × Int × List I} (e : dT42j T = some t) : T = TL42j (t.1) (t.2.1) (t.2.2.1) (t.2.2.2) := by
  unfold dT42j at e
  split at e
  · cases e; rfl
  · cases e
theorem dH42j_some {h : Hp} {u : List I} (e : dH42j h = some u) : h = HL42j (u) := by
  unfold dH42j at e
  split at e
  · cases e; rfl
  · cases e
def qL42j (base : Nat) (T : Tm) : Prog (Nat × Tm) := match base with
  | 0 => match dT42j T with
    | some t => loopA dH42j (fun u => ((t.2.1) == 0) && ((t.2.2.1) == ((t.1).length : Nat)) && decide (((t.1).length : Int) ≤ 4611686018427387904) && allL42j (t.2.2.2) (t.1) && Nat.beq (u).length 0) fun u => (((2, TL42j (t.1) ((t.1).length : Nat) ((t.1).length : Nat) (t.2.2.2)), HL42j ((vL42j (t.2.2.2) (t.1) (u)))) : Out3)
    | none => .fail
  | _ + 1 => .fail
theorem qgo42j (base : Nat) (T : Tm) (h : Hp) (r : Nat × Tm) (h' : Hp) (e : go (qL42j base T) h = some (r, h')) : ∃ m, go (iterM base keepL42j (FL42j base) m T) h = some (r, h') := by
  unfold qL42j at e
  split at e
  · split at e
    · rename_i t ht
      obtain ⟨u, hu, c, e2⟩ := loopA_go e
      rw [dT42j_some ht, dH42j_some hu]
      simp only [Bool.and_eq_true, beq_iff_eq, decide_eq_true_eq] at c
      obtain ⟨c, ci⟩ := c
      obtain ⟨c, ca⟩ := c
      obtain ⟨⟨c1, c2⟩, c3⟩ := c
      refine ⟨(t.1).length + 1, ?_⟩
      rw [c1, c2]
      rw [e2]
      have := runL42j (t.2.2.2) (t.1) (by omega) ca (u) (nb_iff.1 ci)
      exact this
    · cases e
  · cases e
noncomputable def lpL42j0 (base : Nat) (T : Tm) : Prog (Nat × Tm) := .norm base keepL42j T (qL42j base)
theorem sndL42j0 : SoundC Try.prog 28 (.loop (bodyX 42 0)) lpL42j0 :=
  loop_sound (cx := cxL) (cal := evF cxL keeps 3) (kp := keeps 42) (tabOk_of tab_ok) (cmpsOk_of tab_ok cmps_ok) calL mixed (by intro q hq p hp; cases hp) qgo42j
noncomputable def lpL42j (base : Nat) (T : Tm) : Prog (Nat × Tm) := ownP [] [(7, .st (.pair (.int .i64) (.int .i64)))] keepL42j lpL42j0 base T
theorem sndL42j : SoundC Try.prog 28 (.loop (bodyX 42 0)) lpL42j := own_sound sndL42j0
def stepL21 (b : List I)  (i : Nat) (o : List I) (d : I) : List I := o ++ [rJoin d (atV b (i : Nat))]
def allL21 (b : List I) (l0 : List I) : Bool := l0.all fun d => decide (l0.length ≤ 1099511627776)
def vL21 (b : List I) (a : List I) (s : List I) : List I := foldIx (fun i s d => stepL21 b  i (s) d) 0 a s
theorem runL21 (b : List I) (a : List I) (hl : a.length ≤ 4611686018427387904) (ha : allL21 b a = true) (s : List I) (hI : (s).length = 0) :
    go (iterM 0 keepL21 (FL21 0) (a.length + 1) (TL21 0 a b)) (HL21 (s)) = some ((((2, TL21 (a.length : Nat) a b), HL21 ((vL21 b a s))) : Out3)) := by
  have key := range_loop (keep := keepL21) (F := FL21 0) (fun i s => (s).length = i) a (fun i s => TL21 (i : Nat) a b) (fun i s => HL21 (s)) (fun i s d => .inl (stepL21 b  i (s) d)) (fun s => (((2, TL21 (a.length : Nat) a b), HL21 (s)) : Out3)) ?_ ?_ ?_ ?_ ?_ a 0 s rfl (Nat.zero_le _) hI
  · rw [runL_ix] at key
    exact key
  · intro i s d hi hd hm hI K
    have ha := List.all_eq_true.1 ha d hm
    rw [rnd21]
    have e1 : decide ((i : Int) < ((a.length : Nat) : Int)) = true := decide_eq_true (by omega)
    have e2 : decide (0 ≤ (i : Int)) = true := decide_eq_true (by omega)
    rw [e1, e2, Int.toNat_natCast, wrap_up hi hl]
    rw [hd]; simp only [optC, cond_true]; have ha := of_decide_eq_true ha
    have hq : ∀ x : I, decide ((s.length + [x].length + 1) * 16 ≤ lim) = true := fun x => decide_eq_true (by simp only [List.length_singleton]; unfold lim; omega)
    rw [hq]
    rfl
  · intro i s d s' _ hI e; cases e; unfold stepL21; simp; exact hI
  · intro i s d x e; cases e
  · intro s K
    rw [rnd21]
    have e1 : decide (((a.length : Nat) : Int) < ((a.length : Nat) : Int)) = false := decide_eq_false (by omega)
    rw [e1]
    rfl
  · intro s; exact nofun
def dT21 : Tm → Option (Int × List I × List I)
  | [(6, .int .i64 i), (0, .sl (.st (.pair (.int .i64) (.int .i64))) a), (5, .row 0), (1, .sl (.st (.pair (.int .i64) (.int .i64))) b), (4, .nil)] => some (i, a, b)
  | _ => none
def dH21 : Hp → Option (List I)
  | ⟨[(0, .row (.st (.pair (.int .i64) (.int .i64))) o)], 1⟩ => some o
  | _ => none
theorem dT21_some {T : Tm} {t : Int × List I × List I} (e : dT21 T = some t) : T = TL21 (t.1) (t.2.1) (t.2.2) := by
  unfold dT21 at e
  split at e
  · cases e; rfl
  · cases e
theorem dH21_some {h : Hp} {u : List I} (e : dH21 h = some u) : h = HL21 (u) := by
  unfold dH21 at e
  split at e
  · cases e; rfl
  · cases e
def qL21 (base : Nat) (T : Tm) : Prog (Nat × Tm) := match base with
  | 0 => match dT21 T with
    | some t => loopA dH21 (fun u => ((t.1) == 0) && decide (((t.2.1).length : Int) ≤ 4611686018427387904) && allL21 (t.2.2) (t.2.1) && Nat.beq (u).length 0) fun u => (((2, TL21 ((t.2.1).length : Nat) (t.2.1) (t.2.2)), HL21 ((vL21 (t.2.2) (t.2.1) (u)))) : Out3)
    | none => .fail
  | _ + 1 => .fail
theorem qgo21 (base : Nat) (T : Tm) (h : Hp) (r : Nat × Tm) (h' : Hp) (e : go (qL21 base T) h = some (r, h')) : ∃ m, go (iterM base keepL21 (FL21 base) m T) h = some (r, h') := by
  unfold qL21 at e
  split at e
  · split at e
    · rename_i t ht
      obtain ⟨u, hu, c, e2⟩ := loopA_go e
      rw [dT21_some ht, dH21_some hu]
      simp only [Bool.and_eq_true, beq_iff_eq, decide_eq_true_eq] at c
      obtain ⟨c, ci⟩ := c
      obtain ⟨c, ca⟩ := c
      obtain ⟨c1, c3⟩ := c
      refine ⟨(t.2.1).length + 1, ?_⟩
      rw [c1]
      rw [e2]
      have := runL21 (t.2.2) (t.2.1) (by omega) ca (u) (nb_iff.1 ci)
      exact this
    · cases e
  · cases e
noncomputable def lpL210 (base : Nat) (T : Tm) : Prog (Nat × Tm) := .norm base keepL21 T (qL21 base)
theorem sndL210 : SoundC Try.prog 25 (.loop (bodyX 21 0)) lpL210 :=
  loop_sound (cx := cxL) (cal := evF cxL keeps 3) (kp := keeps 21) (tabOk_of tab_ok) (cmpsOk_of tab_ok cmps_ok) calL mixed (by intro q hq p hp; cases hp) qgo21
noncomputable def lpL21 (base : Nat) (T : Tm) : Prog (Nat × Tm) := ownP [] [(5, .st (.pair (.int .i64) (.int .i64)))] keepL21 lpL210 base T
theorem sndL21 : SoundC Try.prog 25 (.loop (bodyX 21 0)) lpL21 := own_sound sndL210
end Go.Proofs.Ytpahnadbknjepaa.Ex

/- Contracts, level 6. -/
namespace Go.Proofs.Ytpahnadbknjepaa.Ex
open Go.Proofs Go.Proofs.Ytpahnadbknjepaa
set_option maxRecDepth 100000
set_option linter.unusedSimpArgs false
set_option linter.unusedVariables false
def okR (a : List I) : Bool := decide (a.length ≤ 1099511627776)
def joinR (a b : List I) : List I := foldIx (fun (i : Nat) o d => o ++ [iJoin d (atV b (i : Nat))]) 0 a []
def rjoinR (a b : List I) : List I := foldIx (fun (i : Nat) o d => o ++ [rJoin d (atV b (i : Nat))]) 0 a []
theorem all40 (a : List I) (h : okR a = true) : (a.all fun _ => decide (a.length ≤ 1099511627776)) = true := by
  rw [List.all_eq_true]; intro _ _; exact h
theorem int40 (a : List I) (h : okR a = true) : decide ((a.length : Int) ≤ 4611686018427387904) = true := by
  have := of_decide_eq_true h; exact decide_eq_true (by omega)
def sp6 : Nat → Option (List AV → Prog AV)
  | 46 => some (specP true M46)
  | 55 => some (specP true M55)
  | 45 => some (specP true M45)
  | 37 => some (specP true M37)
  | 38 => some (specP true M38)
  | 31 => some (specP true M31)
  | 36 => some (specP true M36)
  | 43 => some (specP true M43)
  | 44 => some (specP true M44)
  | 50 => some (specP true M50)
  | 54 => some (specP true M54)
  | 20 => some (specP true M20)
  | 39 => some (specP true M39)
  | 26 => some (specP true M26)
  | 52 => some (specP true M52)
  | 51 => some (specP true M51)
  | 40 => some (specP true M40)
  | 29 => some (specP true M29)
  | _ => none
noncomputable def lp6 : Nat → Nat → Option (Nat → Tm → Prog (Nat × Tm))
  | 42, 0 => some lpL42j
  | 21, 0 => some lpL21
  | _, _ => none
noncomputable def cx6 : Ctx := { tab := tab, spec := sp6, inl := inl, lps := lp6, fuel := 10 }
theorem hsp6 : ∀ g p, cx6.spec g = some p → SoundA Try.prog g p := by
  intro g p h
  change sp6 g = some p at h
  unfold sp6 at h
  split at h
  · cases h; exact snd46
  · cases h; exact snd55
  · cases h; exact snd45
  · cases h; exact snd37
  · cases h; exact snd38
  · cases h; exact snd31
  · cases h; exact snd36
  · cases h; exact snd43
  · cases h; exact snd44
  · cases h; exact snd50
  · cases h; exact snd54
  · cases h; exact snd20
  · cases h; exact snd39
  · cases h; exact snd26
  · cases h; exact snd52
  · cases h; exact snd51
  · cases h; exact snd40
  · cases h; exact snd29
  · cases h
theorem in6 : InlOk Try.prog cx6 := ⟨inl_ok, fun g fn c hg hb q hq p hp => by
  change lp6 g q.1 = some p at hp
  change inl g = some fn at hg
  generalize hq1 : q.1 = b at hp
  unfold lp6 at hp
  split at hp
  · cases hp; exact lps_case (inl := inl) hg hb hq hq1 (by kernel_rfl) (by kernel_rfl) sndL42j
  · cases hp; exact lps_case (inl := inl) hg hb hq hq1 (by kernel_rfl) (by kernel_rfl) sndL21
  · cases hp⟩
theorem cal6 (g : Nat) : SoundA Try.prog g (evF cx6 keeps 3 g) := evF_sound (tabOk_of tab_ok) (cmpsOk_of tab_ok cmps_ok) mixed in6 hsp6 keeps 3 g
end Go.Proofs.Ytpahnadbknjepaa.Ex

/- What is run, level 6. -/
namespace Go.Proofs.Ytpahnadbknjepaa.Ex
open Go.Proofs Go.Proofs.Ytpahnadbknjepaa
set_option maxRecDepth 100000
theorem raw42j (a : List I) (b : List I) : ev cx6 42 [aLI a, aLI b, .clo 25 [] []] =
  bif 0 == 0 && (↑a.length : Int) == (↑a.length : Int) && Decidable.decide ((↑a.length : Int) ≤ 4611686018427387904) && Go.Proofs.Ytpahnadbknjepaa.Ex.allL42j b a && (List.length (α := Go.Proofs.Ytpahnadbknjepaa.Ex.I) []).beq 0 then
    Option.some (Go.Proofs.Ytpahnadbknjepaa.Ex.AV.sl ((Go.Proofs.Ytpahnadbknjepaa.Ex.Ty.int Go.IntKind.i64).pair (Go.Proofs.Ytpahnadbknjepaa.Ex.Ty.int Go.IntKind.i64)).st (Go.Proofs.Ytpahnadbknjepaa.Ex.vL42j b a []), { blks := [], c := 0 })
  else Option.none := by kernel_rfl
theorem raw21 (a : List I) (b : List I) : ev cx6 21 [aLI a, aLI b] =
  bif 0 == 0 && Decidable.decide ((↑a.length : Int) ≤ 4611686018427387904) && Go.Proofs.Ytpahnadbknjepaa.Ex.allL21 b a && (List.length (α := Go.Proofs.Ytpahnadbknjepaa.Ex.I) []).beq 0 then
    Option.some (Go.Proofs.Ytpahnadbknjepaa.Ex.AV.sl ((Go.Proofs.Ytpahnadbknjepaa.Ex.Ty.int Go.IntKind.i64).pair (Go.Proofs.Ytpahnadbknjepaa.Ex.Ty.int Go.IntKind.i64)).st (Go.Proofs.Ytpahnadbknjepaa.Ex.vL21 b a []), { blks := [], c := 0 })
  else Option.none := by kernel_rfl
end Go.Proofs.Ytpahnadbknjepaa.Ex

/- Contracts, level 6. -/
namespace Go.Proofs.Ytpahnadbknjepaa.Ex
open Go.Proofs Go.Proofs.Ytpahnadbknjepaa
set_option maxRecDepth 100000
set_option linter.unusedSimpArgs false
set_option linter.unusedVariables false
theorem ok42j (a : List I) (b : List I) (hp : okR a = true) : ev cx6 42 [aLI a, aLI b, .clo 25 [] []] = outV (aLI (joinR a b)) := by
  rw [raw42j]
  rw [show allL42j b a = true from all40 a hp, int40 a hp, show Nat.beq (List.length (α := I) []) 0 = true from rfl]; simp only [beq_self_eq_true, Bool.and_true, cond_true]; rfl
theorem ok21 (a : List I) (b : List I) (hp : okR a = true) : ev cx6 21 [aLI a, aLI b] = outV (aLI (rjoinR a b)) := by
  rw [raw21]
  rw [show allL21 b a = true from all40 a hp, int40 a hp, show Nat.beq (List.length (α := I) []) 0 = true from rfl]; simp only [beq_self_eq_true, Bool.and_true, cond_true]; rfl
def M42j : List AV → Option (Bool × AV × List Blk)
  | [v_a, v_b, .clo 25 [] []] => (gLI v_a).bind fun a => (gLI v_b).bind fun b => some (okR a, aLI (joinR a b), [])
  | _ => none
theorem hM42j (args : List AV) (v : AV) (bs : List Blk) (h : M42j args = some (true, v, bs)) : AV.idsL args = [] ∧ (true = true ∨ (plainV v = true ∧ bs.all plainB = true)) ∧ ∃ fb, ex ((evF cx6 keeps 3 42 args).bind (finP true)) false ⟨[], 0⟩ ⟨[], []⟩ = some (v, ⟨enumB 0 bs, bs.length⟩, fb) := by
  unfold M42j at h
  split at h
  · obtain ⟨a, h_a, h0⟩ := Option.bind_eq_some_iff.1 h
    obtain ⟨b, h_b, h1⟩ := Option.bind_eq_some_iff.1 h0
    simp only [Option.some.injEq, Prod.mk.injEq] at h1
    obtain ⟨hp, rfl, rfl⟩ := h1
    have e_a := gLI_some h_a
    have e_b := gLI_some h_b
    subst e_a e_b
    exact ⟨rfl, .inl rfl, ev_ex (ok42j a b hp)⟩
  · cases h
theorem snd42 : SoundA Try.prog 42 (specP true M42j) := soundA_spec (fz := true) (cal6 42) hM42j
def M21 : List AV → Option (Bool × AV × List Blk)
  | [v_a, v_b] => (gLI v_a).bind fun a => (gLI v_b).bind fun b => some (okR a, aLI (rjoinR a b), [])
  | _ => none
theorem hM21 (args : List AV) (v : AV) (bs : List Blk) (h : M21 args = some (true, v, bs)) : AV.idsL args = [] ∧ (true = true ∨ (plainV v = true ∧ bs.all plainB = true)) ∧ ∃ fb, ex ((evF cx6 keeps 3 21 args).bind (finP true)) false ⟨[], 0⟩ ⟨[], []⟩ = some (v, ⟨enumB 0 bs, bs.length⟩, fb) := by
  unfold M21 at h
  split at h
  · obtain ⟨a, h_a, h0⟩ := Option.bind_eq_some_iff.1 h
    obtain ⟨b, h_b, h1⟩ := Option.bind_eq_some_iff.1 h0
    simp only [Option.some.injEq, Prod.mk.injEq] at h1
    obtain ⟨hp, rfl, rfl⟩ := h1
    have e_a := gLI_some h_a
    have e_b := gLI_some h_b
    subst e_a e_b
    exact ⟨rfl, .inl rfl, ev_ex (ok21 a b hp)⟩
  · cases h
theorem snd21 : SoundA Try.prog 21 (specP true M21) := soundA_spec (fz := true) (cal6 21) hM21
end Go.Proofs.Ytpahnadbknjepaa.Ex

/- Contracts, level 7. -/
namespace Go.Proofs.Ytpahnadbknjepaa.Ex
open Go.Proofs Go.Proofs.Ytpahnadbknjepaa
set_option maxRecDepth 100000
set_option linter.unusedSimpArgs false
set_option linter.unusedVariables false
def okRE (a : E) : Bool := okR a.2.1 && okR a.2.2.1 && okR a.2.2.2.1
def mergeE (a b : E) : E := (true, joinR a.2.1 b.2.1, joinR a.2.2.1 b.2.2.1, joinR a.2.2.2.1 b.2.2.2.1, andV a.2.2.2.2.1 b.2.2.2.2.1, orV a.2.2.2.2.2 b.2.2.2.2.2)
def sp7 : Nat → Option (List AV → Prog AV)
  | 46 => some (specP true M46)
  | 55 => some (specP true M55)
  | 45 => some (specP true M45)
  | 37 => some (specP true M37)
  | 38 => some (specP true M38)
  | 31 => some (specP true M31)
  | 36 => some (specP true M36)
  | 43 => some (specP true M43)
  | 44 => some (specP true M44)
  | 50 => some (specP true M50)
  | 54 => some (specP true M54)
  | 20 => some (specP true M20)
  | 39 => some (specP true M39)
  | 26 => some (specP true M26)
  | 52 => some (specP true M52)
  | 51 => some (specP true M51)
  | 40 => some (specP true M40)
  | 29 => some (specP true M29)
  | 42 => some (specP true M42j)
  | 21 => some (specP true M21)
  | _ => none
noncomputable def cx7 : Ctx := { tab := tab, spec := sp7, inl := inl, lps := fun _ _ => none, fuel := 10 }
theorem hsp7 : ∀ g p, cx7.spec g = some p → SoundA Try.prog g p := by
  intro g p h
  change sp7 g = some p at h
  unfold sp7 at h
  split at h
  · cases h; exact snd46
  · cases h; exact snd55
  · cases h; exact snd45
  · cases h; exact snd37
  · cases h; exact snd38
  · cases h; exact snd31
  · cases h; exact snd36
  · cases h; exact snd43
  · cases h; exact snd44
  · cases h; exact snd50
  · cases h; exact snd54
  · cases h; exact snd20
  · cases h; exact snd39
  · cases h; exact snd26
  · cases h; exact snd52
  · cases h; exact snd51
  · cases h; exact snd40
  · cases h; exact snd29
  · cases h; exact snd42
  · cases h; exact snd21
  · cases h
theorem in7 : InlOk Try.prog cx7 := ⟨inl_ok, fun _ _ _ _ _ _ _ _ h => nomatch h⟩
theorem cal7 (g : Nat) : SoundA Try.prog g (evF cx7 keeps 3 g) := evF_sound (tabOk_of tab_ok) (cmpsOk_of tab_ok cmps_ok) mixed in7 hsp7 keeps 3 g
end Go.Proofs.Ytpahnadbknjepaa.Ex

/- What is run, level 7. -/
namespace Go.Proofs.Ytpahnadbknjepaa.Ex
open Go.Proofs Go.Proofs.Ytpahnadbknjepaa
set_option maxRecDepth 100000
theorem raw24j (a : E) (b : E) : ev cx7 24 [aE a, aE b, .clo 25 [] []] =
  bif Go.Proofs.Ytpahnadbknjepaa.Ex.okR a.snd.fst then
    bif Go.Proofs.Ytpahnadbknjepaa.Ex.okR a.snd.snd.fst then
      bif Go.Proofs.Ytpahnadbknjepaa.Ex.okR a.snd.snd.snd.fst then
        Option.some
          (Go.Proofs.Ytpahnadbknjepaa.Ex.AV.agg
              [Go.Proofs.Ytpahnadbknjepaa.Ex.AV.bool Bool.true, Go.Proofs.Ytpahnadbknjepaa.Ex.AV.sl ((Go.Proofs.Ytpahnadbknjepaa.Ex.Ty.int Go.IntKind.i64).pair (Go.Proofs.Ytpahnadbknjepaa.Ex.Ty.int Go.IntKind.i64)).st (Go.Proofs.Ytpahnadbknjepaa.Ex.joinR a.snd.fst b.snd.fst),
                Go.Proofs.Ytpahnadbknjepaa.Ex.AV.sl ((Go.Proofs.Ytpahnadbknjepaa.Ex.Ty.int Go.IntKind.i64).pair (Go.Proofs.Ytpahnadbknjepaa.Ex.Ty.int Go.IntKind.i64)).st (Go.Proofs.Ytpahnadbknjepaa.Ex.joinR a.snd.snd.fst b.snd.snd.fst),
                Go.Proofs.Ytpahnadbknjepaa.Ex.AV.sl ((Go.Proofs.Ytpahnadbknjepaa.Ex.Ty.int Go.IntKind.i64).pair (Go.Proofs.Ytpahnadbknjepaa.Ex.Ty.int Go.IntKind.i64)).st (Go.Proofs.Ytpahnadbknjepaa.Ex.joinR a.snd.snd.snd.fst b.snd.snd.snd.fst),
                Go.Proofs.Ytpahnadbknjepaa.Ex.AV.int Go.IntKind.i64 (Go.Proofs.Ytpahnadbknjepaa.Ex.andV a.snd.snd.snd.snd.fst b.snd.snd.snd.snd.fst), Go.Proofs.Ytpahnadbknjepaa.Ex.AV.int Go.IntKind.i64 (Go.Proofs.Ytpahnadbknjepaa.Ex.orV a.snd.snd.snd.snd.snd b.snd.snd.snd.snd.snd)],
            { blks := [], c := 0 })
      else Option.none
    else Option.none
  else Option.none := by kernel_rfl
end Go.Proofs.Ytpahnadbknjepaa.Ex

/- Contracts, level 7. -/
namespace Go.Proofs.Ytpahnadbknjepaa.Ex
open Go.Proofs Go.Proofs.Ytpahnadbknjepaa
set_option maxRecDepth 100000
set_option linter.unusedSimpArgs false
set_option linter.unusedVariables false
theorem ok24j (a : E) (b : E) (hp : okRE a = true) : ev cx7 24 [aE a, aE b, .clo 25 [] []] = outV (aE (mergeE a b)) := by
  rw [raw24j]
  simp only [okRE, Bool.and_eq_true] at hp; obtain ⟨⟨p1, p2⟩, p3⟩ := hp; rw [p1, p2, p3]; rfl
def M24j : List AV → Option (Bool × AV × List Blk)
  | [v_a, v_b, .clo 25 [] []] => (gE v_a).bind fun a => (gE v_b).bind fun b => some (okRE a, aE (mergeE a b), [])
  | _ => none
theorem hM24j (args : List AV) (v : AV) (bs : List Blk) (h : M24j args = some (true, v, bs)) : AV.idsL args = [] ∧ (true = true ∨ (plainV v = true ∧ bs.all plainB = true)) ∧ ∃ fb, ex ((evF cx7 keeps 3 24 args).bind (finP true)) false ⟨[], 0⟩ ⟨[], []⟩ = some (v, ⟨enumB 0 bs, bs.length⟩, fb) := by
  unfold M24j at h
  split at h
  · obtain ⟨a, h_a, h0⟩ := Option.bind_eq_some_iff.1 h
    obtain ⟨b, h_b, h1⟩ := Option.bind_eq_some_iff.1 h0
    simp only [Option.some.injEq, Prod.mk.injEq] at h1
    obtain ⟨hp, rfl, rfl⟩ := h1
    have e_a := gE_some h_a
    have e_b := gE_some h_b
    subst e_a e_b
    exact ⟨rfl, .inl rfl, ev_ex (ok24j a b hp)⟩
  · cases h
theorem snd24 : SoundA Try.prog 24 (specP true M24j) := soundA_spec (fz := true) (cal7 24) hM24j
end Go.Proofs.Ytpahnadbknjepaa.Ex

/- Contracts, level 8. -/
namespace Go.Proofs.Ytpahnadbknjepaa.Ex
open Go.Proofs Go.Proofs.Ytpahnadbknjepaa
set_option maxRecDepth 100000
set_option linter.unusedSimpArgs false
set_option linter.unusedVariables false
def rmergeE (a b : E) : E := (true, rjoinR a.2.1 b.2.1, rjoinR a.2.2.1 b.2.2.1, rjoinR a.2.2.2.1 b.2.2.2.1, andV a.2.2.2.2.1 b.2.2.2.2.1, orV a.2.2.2.2.2 b.2.2.2.2.2)
def rjoinE (a b : E) : E := bif !b.1 then (bif !a.1 then (false, [], [], [], 0, 0) else a) else bif !a.1 then b else rmergeE a b
def sp8 : Nat → Option (List AV → Prog AV)
  | 46 => some (specP true M46)
  | 55 => some (specP true M55)
  | 45 => some (specP true M45)
  | 37 => some (specP true M37)
  | 38 => some (specP true M38)
  | 31 => some (specP true M31)
  | 36 => some (specP true M36)
  | 43 => some (specP true M43)
  | 44 => some (specP true M44)
  | 50 => some (specP true M50)
  | 54 => some (specP true M54)
  | 20 => some (specP true M20)
  | 39 => some (specP true M39)
  | 26 => some (specP true M26)
  | 52 => some (specP true M52)
  | 51 => some (specP true M51)
  | 40 => some (specP true M40)
  | 29 => some (specP true M29)
  | 42 => some (specP true M42j)
  | 21 => some (specP true M21)
  | 24 => some (specP true M24j)
  | _ => none
noncomputable def cx8 : Ctx := { tab := tab, spec := sp8, inl := inl, lps := fun _ _ => none, fuel := 10 }
theorem hsp8 : ∀ g p, cx8.spec g = some p → SoundA Try.prog g p := by
  intro g p h
  change sp8 g = some p at h
  unfold sp8 at h
  split at h
  · cases h; exact snd46
  · cases h; exact snd55
  · cases h; exact snd45
  · cases h; exact snd37
  · cases h; exact snd38
  · cases h; exact snd31
  · cases h; exact snd36
  · cases h; exact snd43
  · cases h; exact snd44
  · cases h; exact snd50
  · cases h; exact snd54
  · cases h; exact snd20
  · cases h; exact snd39
  · cases h; exact snd26
  · cases h; exact snd52
  · cases h; exact snd51
  · cases h; exact snd40
  · cases h; exact snd29
  · cases h; exact snd42
  · cases h; exact snd21
  · cases h; exact snd24
  · cases h
theorem in8 : InlOk Try.prog cx8 := ⟨inl_ok, fun _ _ _ _ _ _ _ _ h => nomatch h⟩
theorem cal8 (g : Nat) : SoundA Try.prog g (evF cx8 keeps 3 g) := evF_sound (tabOk_of tab_ok) (cmpsOk_of tab_ok cmps_ok) mixed in8 hsp8 keeps 3 g
end Go.Proofs.Ytpahnadbknjepaa.Ex

/- What is run, level 8. -/
namespace Go.Proofs.Ytpahnadbknjepaa.Ex
open Go.Proofs Go.Proofs.Ytpahnadbknjepaa
set_option maxRecDepth 100000
theorem raw9 (a : E) (b : E) : evU unE cx8 9 [aE a, aE b] =
  bif !b.fst then
    bif !a.fst then
      Option.some
        (Go.Proofs.Ytpahnadbknjepaa.Ex.AV.agg
            [Go.Proofs.Ytpahnadbknjepaa.Ex.AV.bool Bool.false, Go.Proofs.Ytpahnadbknjepaa.Ex.AV.sl ((Go.Proofs.Ytpahnadbknjepaa.Ex.Ty.int Go.IntKind.i64).pair (Go.Proofs.Ytpahnadbknjepaa.Ex.Ty.int Go.IntKind.i64)).st [],
              Go.Proofs.Ytpahnadbknjepaa.Ex.AV.sl ((Go.Proofs.Ytpahnadbknjepaa.Ex.Ty.int Go.IntKind.i64).pair (Go.Proofs.Ytpahnadbknjepaa.Ex.Ty.int Go.IntKind.i64)).st [], Go.Proofs.Ytpahnadbknjepaa.Ex.AV.sl ((Go.Proofs.Ytpahnadbknjepaa.Ex.Ty.int Go.IntKind.i64).pair (Go.Proofs.Ytpahnadbknjepaa.Ex.Ty.int Go.IntKind.i64)).st [],
              Go.Proofs.Ytpahnadbknjepaa.Ex.AV.int Go.IntKind.i64 0, Go.Proofs.Ytpahnadbknjepaa.Ex.AV.int Go.IntKind.i64 0],
          { blks := [], c := 0 })
    else
      Option.some
        (Go.Proofs.Ytpahnadbknjepaa.Ex.AV.agg
            [Go.Proofs.Ytpahnadbknjepaa.Ex.AV.bool a.fst, Go.Proofs.Ytpahnadbknjepaa.Ex.AV.sl ((Go.Proofs.Ytpahnadbknjepaa.Ex.Ty.int Go.IntKind.i64).pair (Go.Proofs.Ytpahnadbknjepaa.Ex.Ty.int Go.IntKind.i64)).st a.snd.fst,
              Go.Proofs.Ytpahnadbknjepaa.Ex.AV.sl ((Go.Proofs.Ytpahnadbknjepaa.Ex.Ty.int Go.IntKind.i64).pair (Go.Proofs.Ytpahnadbknjepaa.Ex.Ty.int Go.IntKind.i64)).st a.snd.snd.fst,
              Go.Proofs.Ytpahnadbknjepaa.Ex.AV.sl ((Go.Proofs.Ytpahnadbknjepaa.Ex.Ty.int Go.IntKind.i64).pair (Go.Proofs.Ytpahnadbknjepaa.Ex.Ty.int Go.IntKind.i64)).st a.snd.snd.snd.fst, Go.Proofs.Ytpahnadbknjepaa.Ex.AV.int Go.IntKind.i64 a.snd.snd.snd.snd.fst,
              Go.Proofs.Ytpahnadbknjepaa.Ex.AV.int Go.IntKind.i64 a.snd.snd.snd.snd.snd],
          { blks := [], c := 0 })
  else
    bif !a.fst then
      Option.some
        (Go.Proofs.Ytpahnadbknjepaa.Ex.AV.agg
            [Go.Proofs.Ytpahnadbknjepaa.Ex.AV.bool b.fst, Go.Proofs.Ytpahnadbknjepaa.Ex.AV.sl ((Go.Proofs.Ytpahnadbknjepaa.Ex.Ty.int Go.IntKind.i64).pair (Go.Proofs.Ytpahnadbknjepaa.Ex.Ty.int Go.IntKind.i64)).st b.snd.fst,
              Go.Proofs.Ytpahnadbknjepaa.Ex.AV.sl ((Go.Proofs.Ytpahnadbknjepaa.Ex.Ty.int Go.IntKind.i64).pair (Go.Proofs.Ytpahnadbknjepaa.Ex.Ty.int Go.IntKind.i64)).st b.snd.snd.fst,
              Go.Proofs.Ytpahnadbknjepaa.Ex.AV.sl ((Go.Proofs.Ytpahnadbknjepaa.Ex.Ty.int Go.IntKind.i64).pair (Go.Proofs.Ytpahnadbknjepaa.Ex.Ty.int Go.IntKind.i64)).st b.snd.snd.snd.fst, Go.Proofs.Ytpahnadbknjepaa.Ex.AV.int Go.IntKind.i64 b.snd.snd.snd.snd.fst,
              Go.Proofs.Ytpahnadbknjepaa.Ex.AV.int Go.IntKind.i64 b.snd.snd.snd.snd.snd],
          { blks := [], c := 0 })
    else
      bif Go.Proofs.Ytpahnadbknjepaa.Ex.okR a.snd.fst then
        bif Go.Proofs.Ytpahnadbknjepaa.Ex.okR a.snd.snd.fst then
          bif Go.Proofs.Ytpahnadbknjepaa.Ex.okR a.snd.snd.snd.fst then
            Option.some
              (Go.Proofs.Ytpahnadbknjepaa.Ex.AV.agg
                  [Go.Proofs.Ytpahnadbknjepaa.Ex.AV.bool Bool.true, Go.Proofs.Ytpahnadbknjepaa.Ex.AV.sl ((Go.Proofs.Ytpahnadbknjepaa.Ex.Ty.int Go.IntKind.i64).pair (Go.Proofs.Ytpahnadbknjepaa.Ex.Ty.int Go.IntKind.i64)).st (Go.Proofs.Ytpahnadbknjepaa.Ex.rjoinR a.snd.fst b.snd.fst),
                    Go.Proofs.Ytpahnadbknjepaa.Ex.AV.sl ((Go.Proofs.Ytpahnadbknjepaa.Ex.Ty.int Go.IntKind.i64).pair (Go.Proofs.Ytpahnadbknjepaa.Ex.Ty.int Go.IntKind.i64)).st (Go.Proofs.Ytpahnadbknjepaa.Ex.rjoinR a.snd.snd.fst b.snd.snd.fst),
                    Go.Proofs.Ytpahnadbknjepaa.Ex.AV.sl ((Go.Proofs.Ytpahnadbknjepaa.Ex.Ty.int Go.IntKind.i64).pair (Go.Proofs.Ytpahnadbknjepaa.Ex.Ty.int Go.IntKind.i64)).st (Go.Proofs.Ytpahnadbknjepaa.Ex.rjoinR a.snd.snd.snd.fst b.snd.snd.snd.fst),
                    Go.Proofs.Ytpahnadbknjepaa.Ex.AV.int Go.IntKind.i64 (Go.IntKind.i64.wrap (↑(BitVec.ofInt Go.IntKind.i64.bits a.snd.snd.snd.snd.fst &&& BitVec.ofInt Go.IntKind.i64.bits b.snd.snd.snd.snd.fst).toNat : Int)),
                    Go.Proofs.Ytpahnadbknjepaa.Ex.AV.int Go.IntKind.i64 (Go.IntKind.i64.wrap (↑(BitVec.ofInt Go.IntKind.i64.bits a.snd.snd.snd.snd.snd ||| BitVec.ofInt Go.IntKind.i64.bits b.snd.snd.snd.snd.snd).toNat : Int))],
                { blks := [], c := 0 })
          else Option.none
        else Option.none
      else Option.none := by kernel_rfl
end Go.Proofs.Ytpahnadbknjepaa.Ex

/- Contracts, level 8. -/
namespace Go.Proofs.Ytpahnadbknjepaa.Ex
open Go.Proofs Go.Proofs.Ytpahnadbknjepaa
set_option maxRecDepth 100000
set_option linter.unusedSimpArgs false
set_option linter.unusedVariables false
theorem ok9 (a : E) (b : E) (hp : okRE a = true) : evU unE cx8 9 [aE a, aE b] = outV (aE (rjoinE a b)) := by
  rw [raw9]
  simp only [okRE, Bool.and_eq_true] at hp; obtain ⟨⟨p1, p2⟩, p3⟩ := hp; rw [p1, p2, p3]; obtain ⟨a1, a2, a3, a4, a5, a6⟩ := a; obtain ⟨b1, b2, b3, b4, b5, b6⟩ := b; cases a1 <;> cases b1 <;> rfl
def M9 : List AV → Option (Bool × AV × List Blk)
  | [v_a, v_b] => (gE v_a).bind fun a => (gE v_b).bind fun b => some (okRE a, aE (rjoinE a b), [])
  | _ => none
theorem hM9 (args : List AV) (v : AV) (bs : List Blk) (h : M9 args = some (true, v, bs)) : AV.idsL args = [] ∧ (true = true ∨ (plainV v = true ∧ bs.all plainB = true)) ∧ ∃ fb, ex (((fun args => (evF cx8 keeps 3 9 args).bind fun v => .ret (unnil unE v)) args).bind (finP true)) false ⟨[], 0⟩ ⟨[], []⟩ = some (v, ⟨enumB 0 bs, bs.length⟩, fb) := by
  unfold M9 at h
  split at h
  · obtain ⟨a, h_a, h0⟩ := Option.bind_eq_some_iff.1 h
    obtain ⟨b, h_b, h1⟩ := Option.bind_eq_some_iff.1 h0
    simp only [Option.some.injEq, Prod.mk.injEq] at h1
    obtain ⟨hp, rfl, rfl⟩ := h1
    have e_a := gE_some h_a
    have e_b := gE_some h_b
    subst e_a e_b
    exact ⟨rfl, .inl rfl, evU_ex (ok9 a b hp)⟩
  · cases h
theorem snd9 : SoundA Try.prog 9 (specP true M9) := soundA_spec (fz := true) (SoundA.unnil (cal8 9) unE) hM9
end Go.Proofs.Ytpahnadbknjepaa.Ex

/- Contracts, level 9. -/
namespace Go.Proofs.Ytpahnadbknjepaa.Ex
open Go.Proofs Go.Proofs.Ytpahnadbknjepaa
set_option maxRecDepth 100000
set_option linter.unusedSimpArgs false
set_option linter.unusedVariables false
noncomputable def cxClone : Ctx := { tab := tab, spec := fun _ => none, inl := inl, lps := fun _ _ => none, fuel := 10 }
theorem sndClone : SoundA Try.prog 41 (cloneP 16 tI) :=
  clone_sound (cx := cxClone) (cal := fun _ _ => .fail) (i := ⟨.sl tI, 24, 40, [], false⟩) (ie := ⟨tI, 16, 0, [(0, 1), (1, 1)], true⟩) (tabOk_of tab_ok) Try.func41 (inl_ok 41 Try.f41 rfl).2 (t := 24) (tb := 4) (s0 := "slices.go:355") (s1 := "slices.go:357") (s2 := "slices.go:358") (s3 := "slices.go:362") (by kernel_rfl) (by kernel_rfl) (by kernel_rfl) rfl rfl rfl rfl
def sp9 : Nat → Option (List AV → Prog AV)
  | 46 => some (specP true M46)
  | 55 => some (specP true M55)
  | 45 => some (specP true M45)
  | 37 => some (specP true M37)
  | 38 => some (specP true M38)
  | 31 => some (specP true M31)
  | 36 => some (specP true M36)
  | 43 => some (specP true M43)
  | 44 => some (specP true M44)
  | 50 => some (specP true M50)
  | 54 => some (specP true M54)
  | 20 => some (specP true M20)
  | 39 => some (specP true M39)
  | 26 => some (specP true M26)
  | 52 => some (specP true M52)
  | 51 => some (specP true M51)
  | 40 => some (specP true M40)
  | 29 => some (specP true M29)
  | 42 => some (specP true M42j)
  | 21 => some (specP true M21)
  | 24 => some (specP true M24j)
  | 9 => some (specP true M9)
  | 41 => some (cloneP 16 tI)
  | _ => none
noncomputable def cx9 : Ctx := { tab := tab, spec := sp9, inl := inl, lps := fun _ _ => none, fuel := 10 }
theorem hsp9 : ∀ g p, cx9.spec g = some p → SoundA Try.prog g p := by
  intro g p h
  change sp9 g = some p at h
  unfold sp9 at h
  split at h
  · cases h; exact snd46
  · cases h; exact snd55
  · cases h; exact snd45
  · cases h; exact snd37
  · cases h; exact snd38
  · cases h; exact snd31
  · cases h; exact snd36
  · cases h; exact snd43
  · cases h; exact snd44
  · cases h; exact snd50
  · cases h; exact snd54
  · cases h; exact snd20
  · cases h; exact snd39
  · cases h; exact snd26
  · cases h; exact snd52
  · cases h; exact snd51
  · cases h; exact snd40
  · cases h; exact snd29
  · cases h; exact snd42
  · cases h; exact snd21
  · cases h; exact snd24
  · cases h; exact snd9
  · cases h; exact sndClone
  · cases h
theorem in9 : InlOk Try.prog cx9 := ⟨inl_ok, fun _ _ _ _ _ _ _ _ h => nomatch h⟩
theorem cal9 (g : Nat) : SoundA Try.prog g (evF cx9 keeps 3 g) := evF_sound (tabOk_of tab_ok) (cmpsOk_of tab_ok cmps_ok) mixed in9 hsp9 keeps 3 g
end Go.Proofs.Ytpahnadbknjepaa.Ex

/- What is run, level 9. -/
namespace Go.Proofs.Ytpahnadbknjepaa.Ex
open Go.Proofs Go.Proofs.Ytpahnadbknjepaa
set_option maxRecDepth 100000
theorem raw23 (a : E) : ev cx9 23 [aE a] =
  bif Decidable.decide (((List.length (α := Go.Proofs.Ytpahnadbknjepaa.Ex.I) []) + a.snd.fst.length + 1) * 16 ≤ Go.Proofs.Ytpahnadbknjepaa.Ex.lim) then
    bif Decidable.decide (((List.length (α := Go.Proofs.Ytpahnadbknjepaa.Ex.I) []) + a.snd.snd.fst.length + 1) * 16 ≤ Go.Proofs.Ytpahnadbknjepaa.Ex.lim) then
      bif Decidable.decide (((List.length (α := Go.Proofs.Ytpahnadbknjepaa.Ex.I) []) + a.snd.snd.snd.fst.length + 1) * 16 ≤ Go.Proofs.Ytpahnadbknjepaa.Ex.lim) then
        Option.some
          (Go.Proofs.Ytpahnadbknjepaa.Ex.AV.agg
              [Go.Proofs.Ytpahnadbknjepaa.Ex.AV.bool a.fst, Go.Proofs.Ytpahnadbknjepaa.Ex.AV.sl ((Go.Proofs.Ytpahnadbknjepaa.Ex.Ty.int Go.IntKind.i64).pair (Go.Proofs.Ytpahnadbknjepaa.Ex.Ty.int Go.IntKind.i64)).st ([] ++ a.snd.fst),
                Go.Proofs.Ytpahnadbknjepaa.Ex.AV.sl ((Go.Proofs.Ytpahnadbknjepaa.Ex.Ty.int Go.IntKind.i64).pair (Go.Proofs.Ytpahnadbknjepaa.Ex.Ty.int Go.IntKind.i64)).st ([] ++ a.snd.snd.fst),
                Go.Proofs.Ytpahnadbknjepaa.Ex.AV.sl ((Go.Proofs.Ytpahnadbknjepaa.Ex.Ty.int Go.IntKind.i64).pair (Go.Proofs.Ytpahnadbknjepaa.Ex.Ty.int Go.IntKind.i64)).st ([] ++ a.snd.snd.snd.fst), Go.Proofs.Ytpahnadbknjepaa.Ex.AV.int Go.IntKind.i64 a.snd.snd.snd.snd.fst,
                Go.Proofs.Ytpahnadbknjepaa.Ex.AV.int Go.IntKind.i64 a.snd.snd.snd.snd.snd],
            { blks := [], c := 0 })
      else Option.none
    else Option.none
  else Option.none := by kernel_rfl
end Go.Proofs.Ytpahnadbknjepaa.Ex

/- Contracts, level 9. -/
namespace Go.Proofs.Ytpahnadbknjepaa.Ex
open Go.Proofs Go.Proofs.Ytpahnadbknjepaa
set_option maxRecDepth 100000
set_option linter.unusedSimpArgs false
set_option linter.unusedVariables false
theorem ok23 (a : E) (hp : okRE a = true) : ev cx9 23 [aE a] = outV (aE a) := by
  rw [raw23]
  simp only [okRE, Bool.and_eq_true] at hp; obtain ⟨⟨p1, p2⟩, p3⟩ := hp; have k1 := of_decide_eq_true p1; have k2 := of_decide_eq_true p2; have k3 := of_decide_eq_true p3
  have q1 : decide ((a.2.1.length + 1) * 16 ≤ lim) = true := decide_eq_true (by unfold lim; omega)
  have q2 : decide ((a.2.2.1.length + 1) * 16 ≤ lim) = true := decide_eq_true (by unfold lim; omega)
  have q3 : decide ((a.2.2.2.1.length + 1) * 16 ≤ lim) = true := decide_eq_true (by unfold lim; omega)
  simp only [List.length_nil, Nat.zero_add, List.nil_append, q1, q2, q3, cond_true]; rfl
def M23 : List AV → Option (Bool × AV × List Blk)
  | [v_a] => (gE v_a).bind fun a => some (okRE a, aE a, [])
  | _ => none
theorem hM23 (args : List AV) (v : AV) (bs : List Blk) (h : M23 args = some (true, v, bs)) : AV.idsL args = [] ∧ (true = true ∨ (plainV v = true ∧ bs.all plainB = true)) ∧ ∃ fb, ex ((evF cx9 keeps 3 23 args).bind (finP true)) false ⟨[], 0⟩ ⟨[], []⟩ = some (v, ⟨enumB 0 bs, bs.length⟩, fb) := by
  unfold M23 at h
  split at h
  · obtain ⟨a, h_a, h0⟩ := Option.bind_eq_some_iff.1 h
    simp only [Option.some.injEq, Prod.mk.injEq] at h0
    obtain ⟨hp, rfl, rfl⟩ := h0
    have e_a := gE_some h_a
    subst e_a
    exact ⟨rfl, .inl rfl, ev_ex (ok23 a hp)⟩
  · cases h
theorem snd23 : SoundA Try.prog 23 (specP true M23) := soundA_spec (fz := true) (cal9 23) hM23
end Go.Proofs.Ytpahnadbknjepaa.Ex

