/- A part of the proofs of the laws of environments: XK. -/
import Derived.Test.YtpahnadbknjepaaXJ
import Derived.Test.YtpahnadbknjepaaXH
import Derived.Test.YtpahnadbknjepaaXC
/- Loops V: where each round begins. -/
namespace Go.Proofs.Ytpahnadbknjepaa.Ex
open Go.Proofs Go.Proofs.Ytpahnadbknjepaa
set_option maxRecDepth 100000
set_option linter.unusedVariables false
set_option linter.unusedSimpArgs false
def spV : Nat → Option (List AV → Prog AV)
  | 46 => some (specP true M46)
  | 55 => some (specP true M55)
  | 45 => some (specP true M45)
  | 37 => some (specP true M37)
  | 38 => some (specP true M38)
  | 31 => some (specP true M31)
  | 36 => some (specP true M36)
  | 43 => some (specP true M43)
  | 44 => some (specP true M44)
  | 50 => some (specP true M50)
  | 54 => some (specP true M54)
  | 20 => some (specP true M20)
  | 39 => some (specP true M39)
  | 26 => some (specP true M26)
  | 52 => some (specP true M52)
  | 51 => some (specP true M51)
  | 40 => some (specP true M40)
  | 29 => some (specP true M29)
  | 21 => some (specP true M21)
  | 24 => some (specP true M24j)
  | 9 => some (specP true M9)
  | 41 => some (cloneP 16 tI)
  | 23 => some (specP true M23)
  | 11 => some (pickS isNil1 (specP true M11N) (specP true M11L))
  | 33 => some (specP true M33)
  | 53 => some (specP true M53)
  | _ => none
noncomputable def cxV : Ctx := { tab := tab, spec := spV, inl := inl, lps := fun _ _ => none, fuel := 10 }
theorem hspV : ∀ g p, cxV.spec g = some p → SoundA Try.prog g p := by
  intro g p h
  change spV g = some p at h
  unfold spV at h
  split at h
  · cases h; exact snd46
  · cases h; exact snd55
  · cases h; exact snd45
  · cases h; exact snd37
  · cases h; exact snd38
  · cases h; exact snd31
  · cases h; exact snd36
  · cases h; exact snd43
  · cases h; exact snd44
  · cases h; exact snd50
  · cases h; exact snd54
  · cases h; exact snd20
  · cases h; exact snd39
  · cases h; exact snd26
  · cases h; exact snd52
  · cases h; exact snd51
  · cases h; exact snd40
  · cases h; exact snd29
  · cases h; exact snd21
  · cases h; exact snd24
  · cases h; exact snd9
  · cases h; exact sndClone
  · cases h; exact snd23
  · cases h; exact (SoundA.pick isNil1 snd11 snd11L)
  · cases h; exact snd33
  · cases h; exact snd53
  · cases h
theorem inV : InlOk Try.prog cxV := ⟨inl_ok, fun _ _ _ _ _ _ _ _ h => nomatch h⟩
theorem calV : CalOk Try.prog (evF cxV keeps 3) := fun g => evF_sound (tabOk_of tab_ok) (cmpsOk_of tab_ok cmps_ok) mixed inV hspV keeps 3 g
def keepL42w : List Nat := [0, 11, 10, 7, 2, 1, 6]
noncomputable def FL42w (base : Nat) : Tm → Prog (Nat × Tm) := evC cxV (evF cxV keeps 3) ⟨42, 28, keeps 42, base⟩ 0 (bodyX 42 0)
def TL42w (a : List I) (i : Int) (n : Int) (st : List Int) (b : List I) : Tm := [(0, .sl (.st (.pair (.int .i64) (.int .i64))) a), (11, .int .i64 i), (10, .int .i64 n), (7, .row 0), (2, .clo 32 [] [.view [.sl (.int .i64) st] 0]), (1, .sl (.st (.pair (.int .i64) (.int .i64))) b), (6, .nil)]
def HL42w (o : List I) : Hp := ⟨[(0, .row (.st (.pair (.int .i64) (.int .i64))) o)], 1⟩
def keepL34 : List Nat := [8, 0, 7, 1, 2, 6]
noncomputable def FL34 (base : Nat) : Tm → Prog (Nat × Tm) := evC cxV (evF cxV keeps 3) ⟨34, 28, keeps 34, base⟩ 0 (bodyX 34 0)
def TL34 (i : Int) (a : List I) (b : List I) (st : List Int) : Tm := [(8, .int .i64 i), (0, .sl (.st (.pair (.int .i64) (.int .i64))) a), (7, .row 0), (1, .sl (.st (.pair (.int .i64) (.int .i64))) b), (2, .sl (.int .i64) st), (6, .nil)]
def HL34 (o : List I) : Hp := ⟨[(0, .row (.st (.pair (.int .i64) (.int .i64))) o)], 1⟩
end Go.Proofs.Ytpahnadbknjepaa.Ex

/- Loops V: each round. -/
namespace Go.Proofs.Ytpahnadbknjepaa.Ex
open Go.Proofs Go.Proofs.Ytpahnadbknjepaa
set_option maxRecDepth 100000
set_option linter.unusedVariables false
set_option linter.unusedSimpArgs false
theorem rnd42w {R : Type} (a : List I) (i : Int) (n : Int) (st : List Int) (b : List I) (o : List I) (K : Nat → Tm → Hp → Option R) : round 0 keepL42w (FL42w 0) (TL42w a i n st b) (HL42w o) K =
  bif Decidable.decide (i < n) then
    bif Decidable.decide (0 ≤ i) then
      Go.Proofs.Ytpahnadbknjepaa.Ex.optC a[i.toNat]? Option.none fun d8 ↦
        bif Decidable.decide (0 ≤ i) then
          bif Go.Proofs.Ytpahnadbknjepaa.Ex.okLen st then
            bif Decidable.decide ((o.length + [Go.Proofs.Ytpahnadbknjepaa.Ex.widV d8 (Go.Proofs.Ytpahnadbknjepaa.Ex.atV b i) st].length + 1) * 16 ≤ Go.Proofs.Ytpahnadbknjepaa.Ex.lim) then
              K 0
                [(0, Go.Proofs.Ytpahnadbknjepaa.Ex.AV.sl ((Go.Proofs.Ytpahnadbknjepaa.Ex.Ty.int Go.IntKind.i64).pair (Go.Proofs.Ytpahnadbknjepaa.Ex.Ty.int Go.IntKind.i64)).st a), (11, Go.Proofs.Ytpahnadbknjepaa.Ex.AV.int Go.IntKind.i64 (Go.IntKind.i64.wrap (i + 1))),
                  (10, Go.Proofs.Ytpahnadbknjepaa.Ex.AV.int Go.IntKind.i64 n), (7, Go.Proofs.Ytpahnadbknjepaa.Ex.AV.row 0), (2, Go.Proofs.Ytpahnadbknjepaa.Ex.AV.clo 32 [] [Go.Proofs.Ytpahnadbknjepaa.Ex.AV.view [Go.Proofs.Ytpahnadbknjepaa.Ex.AV.sl (Go.Proofs.Ytpahnadbknjepaa.Ex.Ty.int Go.IntKind.i64) st] 0]),
                  (1, Go.Proofs.Ytpahnadbknjepaa.Ex.AV.sl ((Go.Proofs.Ytpahnadbknjepaa.Ex.Ty.int Go.IntKind.i64).pair (Go.Proofs.Ytpahnadbknjepaa.Ex.Ty.int Go.IntKind.i64)).st b), (6, Go.Proofs.Ytpahnadbknjepaa.Ex.AV.nil)]
                { blks := [(0, Go.Proofs.Ytpahnadbknjepaa.Ex.Blk.row ((Go.Proofs.Ytpahnadbknjepaa.Ex.Ty.int Go.IntKind.i64).pair (Go.Proofs.Ytpahnadbknjepaa.Ex.Ty.int Go.IntKind.i64)).st (o ++ [Go.Proofs.Ytpahnadbknjepaa.Ex.widV d8 (Go.Proofs.Ytpahnadbknjepaa.Ex.atV b i) st]))], c := 1 }
            else Option.none
          else Option.none
        else Option.none
    else Option.none
  else
    K 2
      [(0, Go.Proofs.Ytpahnadbknjepaa.Ex.AV.sl ((Go.Proofs.Ytpahnadbknjepaa.Ex.Ty.int Go.IntKind.i64).pair (Go.Proofs.Ytpahnadbknjepaa.Ex.Ty.int Go.IntKind.i64)).st a), (11, Go.Proofs.Ytpahnadbknjepaa.Ex.AV.int Go.IntKind.i64 i), (10, Go.Proofs.Ytpahnadbknjepaa.Ex.AV.int Go.IntKind.i64 n), (7, Go.Proofs.Ytpahnadbknjepaa.Ex.AV.row 0),
        (2, Go.Proofs.Ytpahnadbknjepaa.Ex.AV.clo 32 [] [Go.Proofs.Ytpahnadbknjepaa.Ex.AV.view [Go.Proofs.Ytpahnadbknjepaa.Ex.AV.sl (Go.Proofs.Ytpahnadbknjepaa.Ex.Ty.int Go.IntKind.i64) st] 0]), (1, Go.Proofs.Ytpahnadbknjepaa.Ex.AV.sl ((Go.Proofs.Ytpahnadbknjepaa.Ex.Ty.int Go.IntKind.i64).pair (Go.Proofs.Ytpahnadbknjepaa.Ex.Ty.int Go.IntKind.i64)).st b),
        (6, Go.Proofs.Ytpahnadbknjepaa.Ex.AV.nil)]
      { blks := [(0, Go.Proofs.Ytpahnadbknjepaa.Ex.Blk.row ((Go.Proofs.Ytpahnadbknjepaa.Ex.Ty.int Go.IntKind.i64).pair (Go.Proofs.Ytpahnadbknjepaa.Ex.Ty.int Go.IntKind.i64)).st o)], c := 1 } := by kernel_rfl
theorem rnd34 {R : Type} (i : Int) (a : List I) (b : List I) (st : List Int) (o : List I) (K : Nat → Tm → Hp → Option R) : round 0 keepL34 (FL34 0) (TL34 i a b st) (HL34 o) K =
  bif Decidable.decide (i < (↑a.length : Int)) then
    bif Decidable.decide (0 ≤ i) then
      Go.Proofs.Ytpahnadbknjepaa.Ex.optC a[i.toNat]? Option.none fun d7 ↦
        bif Decidable.decide (0 ≤ i) then
          bif Go.Proofs.Ytpahnadbknjepaa.Ex.okLen st then
            bif Decidable.decide ((o.length + [Go.Proofs.Ytpahnadbknjepaa.Ex.rwidV d7 (Go.Proofs.Ytpahnadbknjepaa.Ex.atV b i) st].length + 1) * 16 ≤ Go.Proofs.Ytpahnadbknjepaa.Ex.lim) then
              K 0
                [(8, Go.Proofs.Ytpahnadbknjepaa.Ex.AV.int Go.IntKind.i64 (Go.IntKind.i64.wrap (i + 1))), (0, Go.Proofs.Ytpahnadbknjepaa.Ex.AV.sl ((Go.Proofs.Ytpahnadbknjepaa.Ex.Ty.int Go.IntKind.i64).pair (Go.Proofs.Ytpahnadbknjepaa.Ex.Ty.int Go.IntKind.i64)).st a), (7, Go.Proofs.Ytpahnadbknjepaa.Ex.AV.row 0),
                  (1, Go.Proofs.Ytpahnadbknjepaa.Ex.AV.sl ((Go.Proofs.Ytpahnadbknjepaa.Ex.Ty.int Go.IntKind.i64).pair (Go.Proofs.Ytpahnadbknjepaa.Ex.Ty.int Go.IntKind.i64)).st b), (2, Go.Proofs.Ytpahnadbknjepaa.Ex.AV.sl (Go.Proofs.Ytpahnadbknjepaa.Ex.Ty.int Go.IntKind.i64) st), (6, Go.Proofs.Ytpahnadbknjepaa.Ex.AV.nil)]
                { blks := [(0, Go.Proofs.Ytpahnadbknjepaa.Ex.Blk.row ((Go.Proofs.Ytpahnadbknjepaa.Ex.Ty.int Go.IntKind.i64).pair (Go.Proofs.Ytpahnadbknjepaa.Ex.Ty.int Go.IntKind.i64)).st (o ++ [Go.Proofs.Ytpahnadbknjepaa.Ex.rwidV d7 (Go.Proofs.Ytpahnadbknjepaa.Ex.atV b i) st]))], c := 1 }
            else Option.none
          else Option.none
        else Option.none
    else Option.none
  else
    K 2
      [(8, Go.Proofs.Ytpahnadbknjepaa.Ex.AV.int Go.IntKind.i64 i), (0, Go.Proofs.Ytpahnadbknjepaa.Ex.AV.sl ((Go.Proofs.Ytpahnadbknjepaa.Ex.Ty.int Go.IntKind.i64).pair (Go.Proofs.Ytpahnadbknjepaa.Ex.Ty.int Go.IntKind.i64)).st a), (7, Go.Proofs.Ytpahnadbknjepaa.Ex.AV.row 0),
        (1, Go.Proofs.Ytpahnadbknjepaa.Ex.AV.sl ((Go.Proofs.Ytpahnadbknjepaa.Ex.Ty.int Go.IntKind.i64).pair (Go.Proofs.Ytpahnadbknjepaa.Ex.Ty.int Go.IntKind.i64)).st b), (2, Go.Proofs.Ytpahnadbknjepaa.Ex.AV.sl (Go.Proofs.Ytpahnadbknjepaa.Ex.Ty.int Go.IntKind.i64) st), (6, Go.Proofs.Ytpahnadbknjepaa.Ex.AV.nil)]
      { blks := [(0, Go.Proofs.Ytpahnadbknjepaa.Ex.Blk.row ((Go.Proofs.Ytpahnadbknjepaa.Ex.Ty.int Go.IntKind.i64).pair (Go.Proofs.Ytpahnadbknjepaa.Ex.Ty.int Go.IntKind.i64)).st o)], c := 1 } := by kernel_rfl
end Go.Proofs.Ytpahnadbknjepaa.Ex

/- Loops V: what they come to. -/
namespace Go.Proofs.Ytpahnadbknjepaa.Ex
open Go.Proofs Go.Proofs.Ytpahnadbknjepaa
set_option maxRecDepth 100000
set_option linter.unusedVariables false
set_option linter.unusedSimpArgs false
def stepL42w (st : List Int) (b : List I)  (i : Nat) (o : List I) (d : I) : List I := o ++ [widV d (atV b (i : Nat)) st]
def allL42w (st : List Int) (b : List I) (l0 : List I) : Bool := l0.all fun d => decide (l0.length ≤ 1099511627776) && okLen st
def vL42w (st : List Int) (b : List I) (a : List I) (s : List I) : List I := foldIx (fun i s d => stepL42w st b  i (s) d) 0 a s
theorem runL42w (st : List Int) (b : List I) (a : List I) (hl : a.length ≤ 4611686018427387904) (ha : allL42w st b a = true) (s : List I) (hI : (s).length = 0) :
    go (iterM 0 keepL42w (FL42w 0) (a.length + 1) (TL42w a 0 (a.length : Nat) st b)) (HL42w (s)) = some ((((2, TL42w a (a.length : Nat) (a.length : Nat) st b), HL42w ((vL42w st b a s))) : Out3)) := by
  have key := range_loop (keep := keepL42w) (F := FL42w 0) (fun i s => (s).length = i) a (fun i s => TL42w a (i : Nat) (a.length : Nat) st b) (fun i s => HL42w (s)) (fun i s d => .inl (stepL42w st b  i (s) d)) (fun s => (((2, TL42w a (a.length : Nat) (a.length : Nat) st b), HL42w (s)) : Out3)) ?_ ?_ ?_ ?_ ?_ a 0 s rfl (Nat.zero_le _) hI
  · rw [runL_ix] at key
    exact key
  · intro i s d hi hd hm hI K
    have ha := List.all_eq_true.1 ha d hm
    rw [rnd42w]
    have e1 : decide ((i : Int) < ((a.length : Nat) : Int)) = true := decide_eq_true (by omega)
    have e2 : decide (0 ≤ (i : Int)) = true := decide_eq_true (by omega)
    rw [e1, e2, Int.toNat_natCast, wrap_up hi hl]
    rw [hd]; simp only [optC, cond_true]; simp only [Bool.and_eq_true] at ha; obtain ⟨ha, hst⟩ := ha; have ha := of_decide_eq_true ha
    have hq : ∀ x : I, decide ((s.length + [x].length + 1) * 16 ≤ lim) = true := fun x => decide_eq_true (by simp only [List.length_singleton]; unfold lim; omega)
    rw [hq, hst]
    rfl
  · intro i s d s' _ hI e; cases e; unfold stepL42w; simp; exact hI
  · intro i s d x e; cases e
  · intro s K
    rw [rnd42w]
    have e1 : decide (((a.length : Nat) : Int) < ((a.length : Nat) : Int)) = false := decide_eq_false (by omega)
    rw [e1]
    rfl
  · intro s; exact nofun
def dT42w : Tm → Option (List I × Int × Int × List Int × List I)
  | [(0, .sl (.st (.pair (.int .i64) (.int .i64))) a), (11, .int .i64 i), (10, .int .i64 n), (7, .row 0), (2, .clo 32 [] [.view [.sl (.int .i64) st] 0]), (1, .sl (.st (.pair (.int .i64) (.int .i64))) b), (6, .nil)] => some (a, i, n, st, b)
  | _ => none
def dH42w : Hp → Option (List I)
  | ⟨[(0, .row (.st (.pair (.int .i64) (.int .i64))) o)], 1⟩ => some o
  | _ => none
theorem dT42w_some {T : Tm} {t : List I × Int × Int × List Int × List I} (e : dT42w T = some t) : T = TL42w (t.1) (t.2.1) (t.2.2.1) (t.2.2.2.1) (t.2.2.2.2) := by
  unfold dT42w at e
  split at e
  · cases e; rfl
  · cases e
theorem dH42w_some {h : Hp} {u : List I} (e : dH42w h = some u) : h = HL42w (u) := by
  unfold dH42w at e
  split at e
  · cases e; rfl
  · cases e
def qL42w (base : Nat) (T : Tm) : Prog (Nat × Tm) := match base with
  | 0 => match dT42w T with
    | some t => loopA dH42w (fun u => ((t.2.1) == 0) && ((t.2.2.1) == ((t.1).length : Nat)) && decide (((t.1).length : Int) ≤ 4611686018427387904) && allL42w (t.2.2.2.1) (t.2.2.2.2) (t.1) && Nat.beq (u).length 0) fun u => (((2, TL42w (t.1) ((t.1).length : Nat) ((t.1).length : Nat) (t.2.2.2.1) (t.2.2.2.2)), HL42w ((vL42w (t.2.2.2.1) (t.2.2.2.2) (t.1) (u)))) : Out3)
    | none => .fail
  | _ + 1 => .fail
theorem qgo42w (base : Nat) (T : Tm) (h : Hp) (r : Nat × Tm) (h' : Hp) (e : go (qL42w base T) h = some (r, h')) : ∃ m, go (iterM base keepL42w (FL42w base) m T) h = some (r, h') := by
  unfold qL42w at e
  split at e
  · split at e
    · rename_i t ht
      obtain ⟨u, hu, c, e2⟩ := loopA_go e
      rw [dT42w_some ht, dH42w_some hu]
      simp only [Bool.and_eq_true, beq_iff_eq, decide_eq_true_eq] at c
      obtain ⟨c, ci⟩ := c
      obtain ⟨c, ca⟩ := c
      obtain ⟨⟨c1, c2⟩, c3⟩ := c
      refine ⟨(t.1).length + 1, ?_⟩
      rw [c1, c2]
      rw [e2]
      have := runL42w (t.2.2.2.1) (t.2.2.2.2) (t.1) (by omega) ca (u) (nb_iff.1 ci)
      exact this
    · cases e
  · cases e
noncomputable def lpL42w0 (base : Nat) (T : Tm) : Prog (Nat × Tm) := .norm base keepL42w T (qL42w base)
theorem sndL42w0 : SoundC Try.prog 28 (.loop (bodyX 42 0)) lpL42w0 :=
  loop_sound (cx := cxV) (cal := evF cxV keeps 3) (kp := keeps 42) (tabOk_of tab_ok) (cmpsOk_of tab_ok cmps_ok) calV mixed (by intro q hq p hp; cases hp) qgo42w
noncomputable def lpL42w (base : Nat) (T : Tm) : Prog (Nat × Tm) := ownP [] [(7, .st (.pair (.int .i64) (.int .i64)))] keepL42w lpL42w0 base T
theorem sndL42w : SoundC Try.prog 28 (.loop (bodyX 42 0)) lpL42w := own_sound sndL42w0
def stepL34 (b : List I) (st : List Int)  (i : Nat) (o : List I) (d : I) : List I := o ++ [rwidV d (atV b (i : Nat)) st]
def allL34 (b : List I) (st : List Int) (l0 : List I) : Bool := l0.all fun d => decide (l0.length ≤ 1099511627776) && okLen st
def vL34 (b : List I) (st : List Int) (a : List I) (s : List I) : List I := foldIx (fun i s d => stepL34 b st  i (s) d) 0 a s
theorem runL34 (b : List I) (st : List Int) (a : List I) (hl : a.length ≤ 4611686018427387904) (ha : allL34 b st a = true) (s : List I) (hI : (s).length = 0) :
    go (iterM 0 keepL34 (FL34 0) (a.length + 1) (TL34 0 a b st)) (HL34 (s)) = some ((((2, TL34 (a.length : Nat) a b st), HL34 ((vL34 b st a s))) : Out3)) := by
  have key := range_loop (keep := keepL34) (F := FL34 0) (fun i s => (s).length = i) a (fun i s => TL34 (i : Nat) a b st) (fun i s => HL34 (s)) (fun i s d => .inl (stepL34 b st  i (s) d)) (fun s => (((2, TL34 (a.length : Nat) a b st), HL34 (s)) : Out3)) ?_ ?_ ?_ ?_ ?_ a 0 s rfl (Nat.zero_le _) hI
  · rw [runL_ix] at key
    exact key
  · intro i s d hi hd hm hI K
    have ha := List.all_eq_true.1 ha d hm
    rw [rnd34]
    have e1 : decide ((i : Int) < ((a.length : Nat) : Int)) = true := decide_eq_true (by omega)
    have e2 : decide (0 ≤ (i : Int)) = true := decide_eq_true (by omega)
    rw [e1, e2, Int.toNat_natCast, wrap_up hi hl]
    rw [hd]; simp only [optC, cond_true]; simp only [Bool.and_eq_true] at ha; obtain ⟨ha, hst⟩ := ha; have ha := of_decide_eq_true ha
    have hq : ∀ x : I, decide ((s.length + [x].length + 1) * 16 ≤ lim) = true := fun x => decide_eq_true (by simp only [List.length_singleton]; unfold lim; omega)
    rw [hq, hst]
    rfl
  · intro i s d s' _ hI e; cases e; unfold stepL34; simp; exact hI
  · intro i s d x e; cases e
  · intro s K
    rw [rnd34]
    have e1 : decide (((a.length : Nat) : Int) < ((a.length : Nat) : Int)) = false := decide_eq_false (by omega)
    rw [e1]
    rfl
  · intro s; exact nofun
def dT34 : Tm → Option (Int × List I × List I × List Int)
  | [(8, .int .i64 i), (0, .sl (.st (.pair (.int .i64) (.int .i64))) a), (7, .row 0), (1, .sl (.st (.pair (.int .i64) (.int .i64))) b), (2, .sl (.int .i64) st), (6, .nil)] => some (i, a, b, st)
  | _ => none
def dH34 : Hp → Option (List I)
  | ⟨[(0, .row (.st (.pair (.int .i64) (.int .i64))) o)], 1⟩ => some o
  | _ => none
theorem dT34_some {T : Tm} {t : Int × List I × List I × List Int} (e : dT34 T = some t) : T = TL34 (t.1) (t.2.1) (t.2.2.1) (t.2.2.2) := by
  unfold dT34 at e
  split at e
  · cases e; rfl
  · cases e
theorem dH34_some {h : Hp} {u : List I} (e : dH34 h = some u) : h = HL34 (u) := by
  unfold dH34 at e
  split at e
  · cases e; rfl
  · cases e
def qL34 (base : Nat) (T : Tm) : Prog (Nat × Tm) := match base with
  | 0 => match dT34 T with
    | some t => loopA dH34 (fun u => ((t.1) == 0) && decide (((t.2.1).length : Int) ≤ 4611686018427387904) && allL34 (t.2.2.1) (t.2.2.2) (t.2.1) && Nat.beq (u).length 0) fun u => (((2, TL34 ((t.2.1).length : Nat) (t.2.1) (t.2.2.1) (t.2.2.2)), HL34 ((vL34 (t.2.2.1) (t.2.2.2) (t.2.1) (u)))) : Out3)
    | none => .fail
  | _ + 1 => .fail
theorem qgo34 (base : Nat) (T : Tm) (h : Hp) (r : Nat × Tm) (h' : Hp) (e : go (qL34 base T) h = some (r, h')) : ∃ m, go (iterM base keepL34 (FL34 base) m T) h = some (r, h') := by
  unfold qL34 at e
  split at e
  · split at e
    · rename_i t ht
      obtain ⟨u, hu, c, e2⟩ := loopA_go e
      rw [dT34_some ht, dH34_some hu]
      simp only [Bool.and_eq_true, beq_iff_eq, decide_eq_true_eq] at c
      obtain ⟨c, ci⟩ := c
      obtain ⟨c, ca⟩ := c
      obtain ⟨c1, c3⟩ := c
      refine ⟨(t.2.1).length + 1, ?_⟩
      rw [c1]
      rw [e2]
      have := runL34 (t.2.2.1) (t.2.2.2) (t.2.1) (by omega) ca (u) (nb_iff.1 ci)
      exact this
    · cases e
  · cases e
noncomputable def lpL340 (base : Nat) (T : Tm) : Prog (Nat × Tm) := .norm base keepL34 T (qL34 base)
theorem sndL340 : SoundC Try.prog 28 (.loop (bodyX 34 0)) lpL340 :=
  loop_sound (cx := cxV) (cal := evF cxV keeps 3) (kp := keeps 34) (tabOk_of tab_ok) (cmpsOk_of tab_ok cmps_ok) calV mixed (by intro q hq p hp; cases hp) qgo34
noncomputable def lpL34 (base : Nat) (T : Tm) : Prog (Nat × Tm) := ownP [] [(7, .st (.pair (.int .i64) (.int .i64)))] keepL34 lpL340 base T
theorem sndL34 : SoundC Try.prog 28 (.loop (bodyX 34 0)) lpL34 := own_sound sndL340
end Go.Proofs.Ytpahnadbknjepaa.Ex

/- Contracts, level 12. -/
namespace Go.Proofs.Ytpahnadbknjepaa.Ex
open Go.Proofs Go.Proofs.Ytpahnadbknjepaa
set_option maxRecDepth 100000
set_option linter.unusedSimpArgs false
set_option linter.unusedVariables false
def widR (a b : List I) (st : List Int) : List I := foldIx (fun (i : Nat) o d => o ++ [widV d (atV b (i : Nat)) st]) 0 a []
def rwidR (a b : List I) (st : List Int) : List I := foldIx (fun (i : Nat) o d => o ++ [rwidV d (atV b (i : Nat)) st]) 0 a []
theorem allst (a : List I) (st : List Int) (h : okR a = true) (h2 : okLen st = true) : (a.all fun _ => decide (a.length ≤ 1099511627776) && okLen st) = true := by
  refine List.all_eq_true.2 fun x hx => ?_
  rw [h2, Bool.and_true]; exact h
def sp12 : Nat → Option (List AV → Prog AV)
  | 46 => some (specP true M46)
  | 55 => some (specP true M55)
  | 45 => some (specP true M45)
  | 37 => some (specP true M37)
  | 38 => some (specP true M38)
  | 31 => some (specP true M31)
  | 36 => some (specP true M36)
  | 43 => some (specP true M43)
  | 44 => some (specP true M44)
  | 50 => some (specP true M50)
  | 54 => some (specP true M54)
  | 20 => some (specP true M20)
  | 39 => some (specP true M39)
  | 26 => some (specP true M26)
  | 52 => some (specP true M52)
  | 51 => some (specP true M51)
  | 40 => some (specP true M40)
  | 29 => some (specP true M29)
  | 21 => some (specP true M21)
  | 24 => some (specP true M24j)
  | 9 => some (specP true M9)
  | 41 => some (cloneP 16 tI)
  | 23 => some (specP true M23)
  | 11 => some (pickS isNil1 (specP true M11N) (specP true M11L))
  | 33 => some (specP true M33)
  | 53 => some (specP true M53)
  | _ => none
noncomputable def lp12 : Nat → Nat → Option (Nat → Tm → Prog (Nat × Tm))
  | 42, 0 => some lpL42w
  | 34, 0 => some lpL34
  | _, _ => none
noncomputable def cx12 : Ctx := { tab := tab, spec := sp12, inl := inl, lps := lp12, fuel := 10 }
theorem hsp12 : ∀ g p, cx12.spec g = some p → SoundA Try.prog g p := by
  intro g p h
  change sp12 g = some p at h
  unfold sp12 at h
  split at h
  · cases h; exact snd46
  · cases h; exact snd55
  · cases h; exact snd45
  · cases h; exact snd37
  · cases h; exact snd38
  · cases h; exact snd31
  · cases h; exact snd36
  · cases h; exact snd43
  · cases h; exact snd44
  · cases h; exact snd50
  · cases h; exact snd54
  · cases h; exact snd20
  · cases h; exact snd39
  · cases h; exact snd26
  · cases h; exact snd52
  · cases h; exact snd51
  · cases h; exact snd40
  · cases h; exact snd29
  · cases h; exact snd21
  · cases h; exact snd24
  · cases h; exact snd9
  · cases h; exact sndClone
  · cases h; exact snd23
  · cases h; exact (SoundA.pick isNil1 snd11 snd11L)
  · cases h; exact snd33
  · cases h; exact snd53
  · cases h
theorem in12 : InlOk Try.prog cx12 := ⟨inl_ok, fun g fn c hg hb q hq p hp => by
  change lp12 g q.1 = some p at hp
  change inl g = some fn at hg
  generalize hq1 : q.1 = b at hp
  unfold lp12 at hp
  split at hp
  · cases hp; exact lps_case (inl := inl) hg hb hq hq1 (by kernel_rfl) (by kernel_rfl) sndL42w
  · cases hp; exact lps_case (inl := inl) hg hb hq hq1 (by kernel_rfl) (by kernel_rfl) sndL34
  · cases hp⟩
theorem cal12 (g : Nat) : SoundA Try.prog g (evF cx12 keeps 3 g) := evF_sound (tabOk_of tab_ok) (cmpsOk_of tab_ok cmps_ok) mixed in12 hsp12 keeps 3 g
end Go.Proofs.Ytpahnadbknjepaa.Ex

/- What is run, level 12. -/
namespace Go.Proofs.Ytpahnadbknjepaa.Ex
open Go.Proofs Go.Proofs.Ytpahnadbknjepaa
set_option maxRecDepth 100000
theorem raw42w (a : List I) (b : List I) (st : List Int) : ev cx12 42 [aLI a, aLI b, aK st] =
  bif 0 == 0 && (↑a.length : Int) == (↑a.length : Int) && Decidable.decide ((↑a.length : Int) ≤ 4611686018427387904) && Go.Proofs.Ytpahnadbknjepaa.Ex.allL42w st b a && (List.length (α := Go.Proofs.Ytpahnadbknjepaa.Ex.I) []).beq 0 then
    Option.some (Go.Proofs.Ytpahnadbknjepaa.Ex.AV.sl ((Go.Proofs.Ytpahnadbknjepaa.Ex.Ty.int Go.IntKind.i64).pair (Go.Proofs.Ytpahnadbknjepaa.Ex.Ty.int Go.IntKind.i64)).st (Go.Proofs.Ytpahnadbknjepaa.Ex.vL42w st b a []), { blks := [], c := 0 })
  else Option.none := by kernel_rfl
theorem raw34 (a : List I) (b : List I) (st : List Int) : ev cx12 34 [aLI a, aLI b, aLi st] =
  bif 0 == 0 && Decidable.decide ((↑a.length : Int) ≤ 4611686018427387904) && Go.Proofs.Ytpahnadbknjepaa.Ex.allL34 b st a && (List.length (α := Go.Proofs.Ytpahnadbknjepaa.Ex.I) []).beq 0 then
    Option.some (Go.Proofs.Ytpahnadbknjepaa.Ex.AV.sl ((Go.Proofs.Ytpahnadbknjepaa.Ex.Ty.int Go.IntKind.i64).pair (Go.Proofs.Ytpahnadbknjepaa.Ex.Ty.int Go.IntKind.i64)).st (Go.Proofs.Ytpahnadbknjepaa.Ex.vL34 b st a []), { blks := [], c := 0 })
  else Option.none := by kernel_rfl
end Go.Proofs.Ytpahnadbknjepaa.Ex

/- Contracts, level 12. -/
namespace Go.Proofs.Ytpahnadbknjepaa.Ex
open Go.Proofs Go.Proofs.Ytpahnadbknjepaa
set_option maxRecDepth 100000
set_option linter.unusedSimpArgs false
set_option linter.unusedVariables false
theorem ok42w (a : List I) (b : List I) (st : List Int) (hp : (okR a && okLen st) = true) : ev cx12 42 [aLI a, aLI b, aK st] = outV (aLI (widR a b st)) := by
  rw [raw42w]
  simp only [Bool.and_eq_true] at hp; obtain ⟨hp, h2⟩ := hp
  rw [show allL42w st b a = true from allst a st hp h2, int40 a hp, show Nat.beq (List.length (α := I) []) 0 = true from rfl]; simp only [beq_self_eq_true, Bool.and_true, cond_true]; rfl
theorem ok34 (a : List I) (b : List I) (st : List Int) (hp : (okR a && okLen st) = true) : ev cx12 34 [aLI a, aLI b, aLi st] = outV (aLI (rwidR a b st)) := by
  rw [raw34]
  simp only [Bool.and_eq_true] at hp; obtain ⟨hp, h2⟩ := hp
  rw [show allL34 b st a = true from allst a st hp h2, int40 a hp, show Nat.beq (List.length (α := I) []) 0 = true from rfl]; simp only [beq_self_eq_true, Bool.and_true, cond_true]; rfl
def M42w : List AV → Option (Bool × AV × List Blk)
  | [v_a, v_b, v_st] => (gLI v_a).bind fun a => (gLI v_b).bind fun b => (gK v_st).bind fun st => some ((okR a && okLen st), aLI (widR a b st), [])
  | _ => none
theorem hM42w (args : List AV) (v : AV) (bs : List Blk) (h : M42w args = some (true, v, bs)) : AV.idsL args = [] ∧ (true = true ∨ (plainV v = true ∧ bs.all plainB = true)) ∧ ∃ fb, ex ((evF cx12 keeps 3 42 args).bind (finP true)) false ⟨[], 0⟩ ⟨[], []⟩ = some (v, ⟨enumB 0 bs, bs.length⟩, fb) := by
  unfold M42w at h
  split at h
  · obtain ⟨a, h_a, h0⟩ := Option.bind_eq_some_iff.1 h
    obtain ⟨b, h_b, h1⟩ := Option.bind_eq_some_iff.1 h0
    obtain ⟨st, h_st, h2⟩ := Option.bind_eq_some_iff.1 h1
    simp only [Option.some.injEq, Prod.mk.injEq] at h2
    obtain ⟨hp, rfl, rfl⟩ := h2
    have e_a := gLI_some h_a
    have e_b := gLI_some h_b
    have e_st := gK_some h_st
    subst e_a e_b e_st
    exact ⟨rfl, .inl rfl, ev_ex (ok42w a b st hp)⟩
  · cases h
theorem snd42w : SoundA Try.prog 42 (specP true M42w) := soundA_spec (fz := true) (cal12 42) hM42w
def M34 : List AV → Option (Bool × AV × List Blk)
  | [v_a, v_b, v_st] => (gLI v_a).bind fun a => (gLI v_b).bind fun b => (gLi v_st).bind fun st => some ((okR a && okLen st), aLI (rwidR a b st), [])
  | _ => none
theorem hM34 (args : List AV) (v : AV) (bs : List Blk) (h : M34 args = some (true, v, bs)) : AV.idsL args = [] ∧ (true = true ∨ (plainV v = true ∧ bs.all plainB = true)) ∧ ∃ fb, ex ((evF cx12 keeps 3 34 args).bind (finP true)) false ⟨[], 0⟩ ⟨[], []⟩ = some (v, ⟨enumB 0 bs, bs.length⟩, fb) := by
  unfold M34 at h
  split at h
  · obtain ⟨a, h_a, h0⟩ := Option.bind_eq_some_iff.1 h
    obtain ⟨b, h_b, h1⟩ := Option.bind_eq_some_iff.1 h0
    obtain ⟨st, h_st, h2⟩ := Option.bind_eq_some_iff.1 h1
    simp only [Option.some.injEq, Prod.mk.injEq] at h2
    obtain ⟨hp, rfl, rfl⟩ := h2
    have e_a := gLI_some h_a
    have e_b := gLI_some h_b
    have e_st := gLi_some h_st
    subst e_a e_b e_st
    exact ⟨rfl, .inl rfl, ev_ex (ok34 a b st hp)⟩
  · cases h
theorem snd34w : SoundA Try.prog 34 (specP true M34) := soundA_spec (fz := true) (cal12 34) hM34
end Go.Proofs.Ytpahnadbknjepaa.Ex

/- Contracts, level 13. -/
namespace Go.Proofs.Ytpahnadbknjepaa.Ex
open Go.Proofs Go.Proofs.Ytpahnadbknjepaa
set_option maxRecDepth 100000
set_option linter.unusedSimpArgs false
set_option linter.unusedVariables false
def wmergeE (a b : E) (st : List Int) : E := (true, widR a.2.1 b.2.1 st, widR a.2.2.1 b.2.2.1 st, widR a.2.2.2.1 b.2.2.2.1 st, andV a.2.2.2.2.1 b.2.2.2.2.1, orV a.2.2.2.2.2 b.2.2.2.2.2)
def sp13 : Nat → Option (List AV → Prog AV)
  | 46 => some (specP true M46)
  | 55 => some (specP true M55)
  | 45 => some (specP true M45)
  | 37 => some (specP true M37)
  | 38 => some (specP true M38)
  | 31 => some (specP true M31)
  | 36 => some (specP true M36)
  | 43 => some (specP true M43)
  | 44 => some (specP true M44)
  | 50 => some (specP true M50)
  | 54 => some (specP true M54)
  | 20 => some (specP true M20)
  | 39 => some (specP true M39)
  | 26 => some (specP true M26)
  | 52 => some (specP true M52)
  | 51 => some (specP true M51)
  | 40 => some (specP true M40)
  | 29 => some (specP true M29)
  | 42 => some (specP true M42w)
  | 21 => some (specP true M21)
  | 9 => some (specP true M9)
  | 41 => some (cloneP 16 tI)
  | 23 => some (specP true M23)
  | 11 => some (pickS isNil1 (specP true M11N) (specP true M11L))
  | 33 => some (specP true M33)
  | 53 => some (specP true M53)
  | 34 => some (specP true M34)
  | _ => none
noncomputable def cx13 : Ctx := { tab := tab, spec := sp13, inl := inl, lps := fun _ _ => none, fuel := 10 }
theorem hsp13 : ∀ g p, cx13.spec g = some p → SoundA Try.prog g p := by
  intro g p h
  change sp13 g = some p at h
  unfold sp13 at h
  split at h
  · cases h; exact snd46
  · cases h; exact snd55
  · cases h; exact snd45
  · cases h; exact snd37
  · cases h; exact snd38
  · cases h; exact snd31
  · cases h; exact snd36
  · cases h; exact snd43
  · cases h; exact snd44
  · cases h; exact snd50
  · cases h; exact snd54
  · cases h; exact snd20
  · cases h; exact snd39
  · cases h; exact snd26
  · cases h; exact snd52
  · cases h; exact snd51
  · cases h; exact snd40
  · cases h; exact snd29
  · cases h; exact snd42w
  · cases h; exact snd21
  · cases h; exact snd9
  · cases h; exact sndClone
  · cases h; exact snd23
  · cases h; exact (SoundA.pick isNil1 snd11 snd11L)
  · cases h; exact snd33
  · cases h; exact snd53
  · cases h; exact snd34w
  · cases h
theorem in13 : InlOk Try.prog cx13 := ⟨inl_ok, fun _ _ _ _ _ _ _ _ h => nomatch h⟩
theorem cal13 (g : Nat) : SoundA Try.prog g (evF cx13 keeps 3 g) := evF_sound (tabOk_of tab_ok) (cmpsOk_of tab_ok cmps_ok) mixed in13 hsp13 keeps 3 g
end Go.Proofs.Ytpahnadbknjepaa.Ex

/- What is run, level 13. -/
namespace Go.Proofs.Ytpahnadbknjepaa.Ex
open Go.Proofs Go.Proofs.Ytpahnadbknjepaa
set_option maxRecDepth 100000
theorem raw24w (a : E) (b : E) (st : List Int) : ev cx13 24 [aE a, aE b, aK st] =
  bif Go.Proofs.Ytpahnadbknjepaa.Ex.okR a.snd.fst && Go.Proofs.Ytpahnadbknjepaa.Ex.okLen st then
    bif Go.Proofs.Ytpahnadbknjepaa.Ex.okR a.snd.snd.fst && Go.Proofs.Ytpahnadbknjepaa.Ex.okLen st then
      bif Go.Proofs.Ytpahnadbknjepaa.Ex.okR a.snd.snd.snd.fst && Go.Proofs.Ytpahnadbknjepaa.Ex.okLen st then
        Option.some
          (Go.Proofs.Ytpahnadbknjepaa.Ex.AV.agg
              [Go.Proofs.Ytpahnadbknjepaa.Ex.AV.bool Bool.true, Go.Proofs.Ytpahnadbknjepaa.Ex.AV.sl ((Go.Proofs.Ytpahnadbknjepaa.Ex.Ty.int Go.IntKind.i64).pair (Go.Proofs.Ytpahnadbknjepaa.Ex.Ty.int Go.IntKind.i64)).st (Go.Proofs.Ytpahnadbknjepaa.Ex.widR a.snd.fst b.snd.fst st),
                Go.Proofs.Ytpahnadbknjepaa.Ex.AV.sl ((Go.Proofs.Ytpahnadbknjepaa.Ex.Ty.int Go.IntKind.i64).pair (Go.Proofs.Ytpahnadbknjepaa.Ex.Ty.int Go.IntKind.i64)).st (Go.Proofs.Ytpahnadbknjepaa.Ex.widR a.snd.snd.fst b.snd.snd.fst st),
                Go.Proofs.Ytpahnadbknjepaa.Ex.AV.sl ((Go.Proofs.Ytpahnadbknjepaa.Ex.Ty.int Go.IntKind.i64).pair (Go.Proofs.Ytpahnadbknjepaa.Ex.Ty.int Go.IntKind.i64)).st (Go.Proofs.Ytpahnadbknjepaa.Ex.widR a.snd.snd.snd.fst b.snd.snd.snd.fst st),
                Go.Proofs.Ytpahnadbknjepaa.Ex.AV.int Go.IntKind.i64 (Go.Proofs.Ytpahnadbknjepaa.Ex.andV a.snd.snd.snd.snd.fst b.snd.snd.snd.snd.fst), Go.Proofs.Ytpahnadbknjepaa.Ex.AV.int Go.IntKind.i64 (Go.Proofs.Ytpahnadbknjepaa.Ex.orV a.snd.snd.snd.snd.snd b.snd.snd.snd.snd.snd)],
            { blks := [], c := 0 })
      else Option.none
    else Option.none
  else Option.none := by kernel_rfl
end Go.Proofs.Ytpahnadbknjepaa.Ex

/- Contracts, level 13. -/
namespace Go.Proofs.Ytpahnadbknjepaa.Ex
open Go.Proofs Go.Proofs.Ytpahnadbknjepaa
set_option maxRecDepth 100000
set_option linter.unusedSimpArgs false
set_option linter.unusedVariables false
theorem ok24w (a : E) (b : E) (st : List Int) (hp : (okRE a && okLen st) = true) : ev cx13 24 [aE a, aE b, aK st] = outV (aE (wmergeE a b st)) := by
  rw [raw24w]
  simp only [okRE, Bool.and_eq_true] at hp; obtain ⟨⟨⟨p1, p2⟩, p3⟩, p4⟩ := hp; simp only [p1, p2, p3, p4, Bool.and_true, cond_true]; rfl
def M24w : List AV → Option (Bool × AV × List Blk)
  | [v_a, v_b, v_st] => (gE v_a).bind fun a => (gE v_b).bind fun b => (gK v_st).bind fun st => some ((okRE a && okLen st), aE (wmergeE a b st), [])
  | _ => none
theorem hM24w (args : List AV) (v : AV) (bs : List Blk) (h : M24w args = some (true, v, bs)) : AV.idsL args = [] ∧ (true = true ∨ (plainV v = true ∧ bs.all plainB = true)) ∧ ∃ fb, ex ((evF cx13 keeps 3 24 args).bind (finP true)) false ⟨[], 0⟩ ⟨[], []⟩ = some (v, ⟨enumB 0 bs, bs.length⟩, fb) := by
  unfold M24w at h
  split at h
  · obtain ⟨a, h_a, h0⟩ := Option.bind_eq_some_iff.1 h
    obtain ⟨b, h_b, h1⟩ := Option.bind_eq_some_iff.1 h0
    obtain ⟨st, h_st, h2⟩ := Option.bind_eq_some_iff.1 h1
    simp only [Option.some.injEq, Prod.mk.injEq] at h2
    obtain ⟨hp, rfl, rfl⟩ := h2
    have e_a := gE_some h_a
    have e_b := gE_some h_b
    have e_st := gK_some h_st
    subst e_a e_b e_st
    exact ⟨rfl, .inl rfl, ev_ex (ok24w a b st hp)⟩
  · cases h
theorem snd24w : SoundA Try.prog 24 (specP true M24w) := soundA_spec (fz := true) (cal13 24) hM24w
end Go.Proofs.Ytpahnadbknjepaa.Ex

/- Contracts, level 14. -/
namespace Go.Proofs.Ytpahnadbknjepaa.Ex
open Go.Proofs Go.Proofs.Ytpahnadbknjepaa
set_option maxRecDepth 100000
set_option linter.unusedSimpArgs false
set_option linter.unusedVariables false
def widE (a b : E) (st : List Int) : E := bif !a.1 || !b.1 then joinL [b, a] else wmergeE a b st
def rwmergeE (a b : E) (st : List Int) : E := (true, rwidR a.2.1 b.2.1 st, rwidR a.2.2.1 b.2.2.1 st, rwidR a.2.2.2.1 b.2.2.2.1 st, andV a.2.2.2.2.1 b.2.2.2.2.1, orV a.2.2.2.2.2 b.2.2.2.2.2)
def rwidE (a b : E) (st : List Int) : E := bif !a.1 || !b.1 then rjoinE a b else rwmergeE a b st
def sp14 : Nat → Option (List AV → Prog AV)
  | 46 => some (specP true M46)
  | 55 => some (specP true M55)
  | 45 => some (specP true M45)
  | 37 => some (specP true M37)
  | 38 => some (specP true M38)
  | 31 => some (specP true M31)
  | 36 => some (specP true M36)
  | 43 => some (specP true M43)
  | 44 => some (specP true M44)
  | 50 => some (specP true M50)
  | 54 => some (specP true M54)
  | 20 => some (specP true M20)
  | 39 => some (specP true M39)
  | 26 => some (specP true M26)
  | 52 => some (specP true M52)
  | 51 => some (specP true M51)
  | 40 => some (specP true M40)
  | 29 => some (specP true M29)
  | 42 => some (specP true M42w)
  | 21 => some (specP true M21)
  | 24 => some (specP true M24w)
  | 9 => some (specP true M9)
  | 41 => some (cloneP 16 tI)
  | 23 => some (specP true M23)
  | 11 => some (pickS isNil1 (specP true M11N) (specP true M11L))
  | 33 => some (specP true M33)
  | 53 => some (specP true M53)
  | 34 => some (specP true M34)
  | _ => none
noncomputable def cx14 : Ctx := { tab := tab, spec := sp14, inl := inl, lps := fun _ _ => none, fuel := 10 }
theorem hsp14 : ∀ g p, cx14.spec g = some p → SoundA Try.prog g p := by
  intro g p h
  change sp14 g = some p at h
  unfold sp14 at h
  split at h
  · cases h; exact snd46
  · cases h; exact snd55
  · cases h; exact snd45
  · cases h; exact snd37
  · cases h; exact snd38
  · cases h; exact snd31
  · cases h; exact snd36
  · cases h; exact snd43
  · cases h; exact snd44
  · cases h; exact snd50
  · cases h; exact snd54
  · cases h; exact snd20
  · cases h; exact snd39
  · cases h; exact snd26
  · cases h; exact snd52
  · cases h; exact snd51
  · cases h; exact snd40
  · cases h; exact snd29
  · cases h; exact snd42w
  · cases h; exact snd21
  · cases h; exact snd24w
  · cases h; exact snd9
  · cases h; exact sndClone
  · cases h; exact snd23
  · cases h; exact (SoundA.pick isNil1 snd11 snd11L)
  · cases h; exact snd33
  · cases h; exact snd53
  · cases h; exact snd34w
  · cases h
theorem in14 : InlOk Try.prog cx14 := ⟨inl_ok, fun _ _ _ _ _ _ _ _ h => nomatch h⟩
theorem cal14 (g : Nat) : SoundA Try.prog g (evF cx14 keeps 3 g) := evF_sound (tabOk_of tab_ok) (cmpsOk_of tab_ok cmps_ok) mixed in14 hsp14 keeps 3 g
end Go.Proofs.Ytpahnadbknjepaa.Ex

/- What is run, level 14. -/
namespace Go.Proofs.Ytpahnadbknjepaa.Ex
open Go.Proofs Go.Proofs.Ytpahnadbknjepaa
set_option maxRecDepth 100000
theorem raw16 (a : E) (b : E) (st : List Int) : ev cx14 16 [aE a, aE b, aLi st] =
  bif !a.fst then
    bif Go.Proofs.Ytpahnadbknjepaa.Ex.okJ [b, a] then
      Option.some
        (Go.Proofs.Ytpahnadbknjepaa.Ex.AV.agg
            [Go.Proofs.Ytpahnadbknjepaa.Ex.AV.bool (Go.Proofs.Ytpahnadbknjepaa.Ex.joinL [b, a]).fst, Go.Proofs.Ytpahnadbknjepaa.Ex.AV.sl ((Go.Proofs.Ytpahnadbknjepaa.Ex.Ty.int Go.IntKind.i64).pair (Go.Proofs.Ytpahnadbknjepaa.Ex.Ty.int Go.IntKind.i64)).st (Go.Proofs.Ytpahnadbknjepaa.Ex.joinL [b, a]).snd.fst,
              Go.Proofs.Ytpahnadbknjepaa.Ex.AV.sl ((Go.Proofs.Ytpahnadbknjepaa.Ex.Ty.int Go.IntKind.i64).pair (Go.Proofs.Ytpahnadbknjepaa.Ex.Ty.int Go.IntKind.i64)).st (Go.Proofs.Ytpahnadbknjepaa.Ex.joinL [b, a]).snd.snd.fst,
              Go.Proofs.Ytpahnadbknjepaa.Ex.AV.sl ((Go.Proofs.Ytpahnadbknjepaa.Ex.Ty.int Go.IntKind.i64).pair (Go.Proofs.Ytpahnadbknjepaa.Ex.Ty.int Go.IntKind.i64)).st (Go.Proofs.Ytpahnadbknjepaa.Ex.joinL [b, a]).snd.snd.snd.fst,
              Go.Proofs.Ytpahnadbknjepaa.Ex.AV.int Go.IntKind.i64 (Go.Proofs.Ytpahnadbknjepaa.Ex.joinL [b, a]).snd.snd.snd.snd.fst, Go.Proofs.Ytpahnadbknjepaa.Ex.AV.int Go.IntKind.i64 (Go.Proofs.Ytpahnadbknjepaa.Ex.joinL [b, a]).snd.snd.snd.snd.snd],
          { blks := [], c := 0 })
    else Option.none
  else
    bif !b.fst then
      bif Go.Proofs.Ytpahnadbknjepaa.Ex.okJ [b, a] then
        Option.some
          (Go.Proofs.Ytpahnadbknjepaa.Ex.AV.agg
              [Go.Proofs.Ytpahnadbknjepaa.Ex.AV.bool (Go.Proofs.Ytpahnadbknjepaa.Ex.joinL [b, a]).fst, Go.Proofs.Ytpahnadbknjepaa.Ex.AV.sl ((Go.Proofs.Ytpahnadbknjepaa.Ex.Ty.int Go.IntKind.i64).pair (Go.Proofs.Ytpahnadbknjepaa.Ex.Ty.int Go.IntKind.i64)).st (Go.Proofs.Ytpahnadbknjepaa.Ex.joinL [b, a]).snd.fst,
                Go.Proofs.Ytpahnadbknjepaa.Ex.AV.sl ((Go.Proofs.Ytpahnadbknjepaa.Ex.Ty.int Go.IntKind.i64).pair (Go.Proofs.Ytpahnadbknjepaa.Ex.Ty.int Go.IntKind.i64)).st (Go.Proofs.Ytpahnadbknjepaa.Ex.joinL [b, a]).snd.snd.fst,
                Go.Proofs.Ytpahnadbknjepaa.Ex.AV.sl ((Go.Proofs.Ytpahnadbknjepaa.Ex.Ty.int Go.IntKind.i64).pair (Go.Proofs.Ytpahnadbknjepaa.Ex.Ty.int Go.IntKind.i64)).st (Go.Proofs.Ytpahnadbknjepaa.Ex.joinL [b, a]).snd.snd.snd.fst,
                Go.Proofs.Ytpahnadbknjepaa.Ex.AV.int Go.IntKind.i64 (Go.Proofs.Ytpahnadbknjepaa.Ex.joinL [b, a]).snd.snd.snd.snd.fst, Go.Proofs.Ytpahnadbknjepaa.Ex.AV.int Go.IntKind.i64 (Go.Proofs.Ytpahnadbknjepaa.Ex.joinL [b, a]).snd.snd.snd.snd.snd],
            { blks := [], c := 0 })
      else Option.none
    else
      bif Go.Proofs.Ytpahnadbknjepaa.Ex.okRE a && Go.Proofs.Ytpahnadbknjepaa.Ex.okLen st then
        Option.some
          (Go.Proofs.Ytpahnadbknjepaa.Ex.AV.agg
              [Go.Proofs.Ytpahnadbknjepaa.Ex.AV.bool (Go.Proofs.Ytpahnadbknjepaa.Ex.wmergeE a b st).fst, Go.Proofs.Ytpahnadbknjepaa.Ex.AV.sl ((Go.Proofs.Ytpahnadbknjepaa.Ex.Ty.int Go.IntKind.i64).pair (Go.Proofs.Ytpahnadbknjepaa.Ex.Ty.int Go.IntKind.i64)).st (Go.Proofs.Ytpahnadbknjepaa.Ex.wmergeE a b st).snd.fst,
                Go.Proofs.Ytpahnadbknjepaa.Ex.AV.sl ((Go.Proofs.Ytpahnadbknjepaa.Ex.Ty.int Go.IntKind.i64).pair (Go.Proofs.Ytpahnadbknjepaa.Ex.Ty.int Go.IntKind.i64)).st (Go.Proofs.Ytpahnadbknjepaa.Ex.wmergeE a b st).snd.snd.fst,
                Go.Proofs.Ytpahnadbknjepaa.Ex.AV.sl ((Go.Proofs.Ytpahnadbknjepaa.Ex.Ty.int Go.IntKind.i64).pair (Go.Proofs.Ytpahnadbknjepaa.Ex.Ty.int Go.IntKind.i64)).st (Go.Proofs.Ytpahnadbknjepaa.Ex.wmergeE a b st).snd.snd.snd.fst,
                Go.Proofs.Ytpahnadbknjepaa.Ex.AV.int Go.IntKind.i64 (Go.Proofs.Ytpahnadbknjepaa.Ex.wmergeE a b st).snd.snd.snd.snd.fst, Go.Proofs.Ytpahnadbknjepaa.Ex.AV.int Go.IntKind.i64 (Go.Proofs.Ytpahnadbknjepaa.Ex.wmergeE a b st).snd.snd.snd.snd.snd],
            { blks := [], c := 0 })
      else Option.none := by kernel_rfl
theorem raw17 (a : E) (b : E) (st : List Int) : ev cx14 17 [aE a, aE b, aLi st] =
  bif !a.fst then
    bif Go.Proofs.Ytpahnadbknjepaa.Ex.okRE a then
      Option.some
        (Go.Proofs.Ytpahnadbknjepaa.Ex.AV.agg
            [Go.Proofs.Ytpahnadbknjepaa.Ex.AV.bool (Go.Proofs.Ytpahnadbknjepaa.Ex.rjoinE a b).fst, Go.Proofs.Ytpahnadbknjepaa.Ex.AV.sl ((Go.Proofs.Ytpahnadbknjepaa.Ex.Ty.int Go.IntKind.i64).pair (Go.Proofs.Ytpahnadbknjepaa.Ex.Ty.int Go.IntKind.i64)).st (Go.Proofs.Ytpahnadbknjepaa.Ex.rjoinE a b).snd.fst,
              Go.Proofs.Ytpahnadbknjepaa.Ex.AV.sl ((Go.Proofs.Ytpahnadbknjepaa.Ex.Ty.int Go.IntKind.i64).pair (Go.Proofs.Ytpahnadbknjepaa.Ex.Ty.int Go.IntKind.i64)).st (Go.Proofs.Ytpahnadbknjepaa.Ex.rjoinE a b).snd.snd.fst,
              Go.Proofs.Ytpahnadbknjepaa.Ex.AV.sl ((Go.Proofs.Ytpahnadbknjepaa.Ex.Ty.int Go.IntKind.i64).pair (Go.Proofs.Ytpahnadbknjepaa.Ex.Ty.int Go.IntKind.i64)).st (Go.Proofs.Ytpahnadbknjepaa.Ex.rjoinE a b).snd.snd.snd.fst, Go.Proofs.Ytpahnadbknjepaa.Ex.AV.int Go.IntKind.i64 (Go.Proofs.Ytpahnadbknjepaa.Ex.rjoinE a b).snd.snd.snd.snd.fst,
              Go.Proofs.Ytpahnadbknjepaa.Ex.AV.int Go.IntKind.i64 (Go.Proofs.Ytpahnadbknjepaa.Ex.rjoinE a b).snd.snd.snd.snd.snd],
          { blks := [], c := 0 })
    else Option.none
  else
    bif !b.fst then
      bif Go.Proofs.Ytpahnadbknjepaa.Ex.okRE a then
        Option.some
          (Go.Proofs.Ytpahnadbknjepaa.Ex.AV.agg
              [Go.Proofs.Ytpahnadbknjepaa.Ex.AV.bool (Go.Proofs.Ytpahnadbknjepaa.Ex.rjoinE a b).fst, Go.Proofs.Ytpahnadbknjepaa.Ex.AV.sl ((Go.Proofs.Ytpahnadbknjepaa.Ex.Ty.int Go.IntKind.i64).pair (Go.Proofs.Ytpahnadbknjepaa.Ex.Ty.int Go.IntKind.i64)).st (Go.Proofs.Ytpahnadbknjepaa.Ex.rjoinE a b).snd.fst,
                Go.Proofs.Ytpahnadbknjepaa.Ex.AV.sl ((Go.Proofs.Ytpahnadbknjepaa.Ex.Ty.int Go.IntKind.i64).pair (Go.Proofs.Ytpahnadbknjepaa.Ex.Ty.int Go.IntKind.i64)).st (Go.Proofs.Ytpahnadbknjepaa.Ex.rjoinE a b).snd.snd.fst,
                Go.Proofs.Ytpahnadbknjepaa.Ex.AV.sl ((Go.Proofs.Ytpahnadbknjepaa.Ex.Ty.int Go.IntKind.i64).pair (Go.Proofs.Ytpahnadbknjepaa.Ex.Ty.int Go.IntKind.i64)).st (Go.Proofs.Ytpahnadbknjepaa.Ex.rjoinE a b).snd.snd.snd.fst, Go.Proofs.Ytpahnadbknjepaa.Ex.AV.int Go.IntKind.i64 (Go.Proofs.Ytpahnadbknjepaa.Ex.rjoinE a b).snd.snd.snd.snd.fst,
                Go.Proofs.Ytpahnadbknjepaa.Ex.AV.int Go.IntKind.i64 (Go.Proofs.Ytpahnadbknjepaa.Ex.rjoinE a b).snd.snd.snd.snd.snd],
            { blks := [], c := 0 })
      else Option.none
    else
      bif Go.Proofs.Ytpahnadbknjepaa.Ex.okR a.snd.fst && Go.Proofs.Ytpahnadbknjepaa.Ex.okLen st then
        bif Go.Proofs.Ytpahnadbknjepaa.Ex.okR a.snd.snd.fst && Go.Proofs.Ytpahnadbknjepaa.Ex.okLen st then
          bif Go.Proofs.Ytpahnadbknjepaa.Ex.okR a.snd.snd.snd.fst && Go.Proofs.Ytpahnadbknjepaa.Ex.okLen st then
            Option.some
              (Go.Proofs.Ytpahnadbknjepaa.Ex.AV.agg
                  [Go.Proofs.Ytpahnadbknjepaa.Ex.AV.bool Bool.true, Go.Proofs.Ytpahnadbknjepaa.Ex.AV.sl ((Go.Proofs.Ytpahnadbknjepaa.Ex.Ty.int Go.IntKind.i64).pair (Go.Proofs.Ytpahnadbknjepaa.Ex.Ty.int Go.IntKind.i64)).st (Go.Proofs.Ytpahnadbknjepaa.Ex.rwidR a.snd.fst b.snd.fst st),
                    Go.Proofs.Ytpahnadbknjepaa.Ex.AV.sl ((Go.Proofs.Ytpahnadbknjepaa.Ex.Ty.int Go.IntKind.i64).pair (Go.Proofs.Ytpahnadbknjepaa.Ex.Ty.int Go.IntKind.i64)).st (Go.Proofs.Ytpahnadbknjepaa.Ex.rwidR a.snd.snd.fst b.snd.snd.fst st),
                    Go.Proofs.Ytpahnadbknjepaa.Ex.AV.sl ((Go.Proofs.Ytpahnadbknjepaa.Ex.Ty.int Go.IntKind.i64).pair (Go.Proofs.Ytpahnadbknjepaa.Ex.Ty.int Go.IntKind.i64)).st (Go.Proofs.Ytpahnadbknjepaa.Ex.rwidR a.snd.snd.snd.fst b.snd.snd.snd.fst st),
                    Go.Proofs.Ytpahnadbknjepaa.Ex.AV.int Go.IntKind.i64 (Go.IntKind.i64.wrap (↑(BitVec.ofInt Go.IntKind.i64.bits a.snd.snd.snd.snd.fst &&& BitVec.ofInt Go.IntKind.i64.bits b.snd.snd.snd.snd.fst).toNat : Int)),
                    Go.Proofs.Ytpahnadbknjepaa.Ex.AV.int Go.IntKind.i64 (Go.IntKind.i64.wrap (↑(BitVec.ofInt Go.IntKind.i64.bits a.snd.snd.snd.snd.snd ||| BitVec.ofInt Go.IntKind.i64.bits b.snd.snd.snd.snd.snd).toNat : Int))],
                { blks := [], c := 0 })
          else Option.none
        else Option.none
      else Option.none := by kernel_rfl
end Go.Proofs.Ytpahnadbknjepaa.Ex

/- Contracts, level 14. -/
namespace Go.Proofs.Ytpahnadbknjepaa.Ex
open Go.Proofs Go.Proofs.Ytpahnadbknjepaa
set_option maxRecDepth 100000
set_option linter.unusedSimpArgs false
set_option linter.unusedVariables false
theorem ok16 (a : E) (b : E) (st : List Int) (hp : (okRE a && okRE b && okLen st) = true) : ev cx14 16 [aE a, aE b, aLi st] = outV (aE (widE a b st)) := by
  rw [raw16]
  simp only [Bool.and_eq_true] at hp; obtain ⟨⟨p1, p2⟩, p3⟩ := hp
  have q : okJ [b, a] = true := by unfold okJ allL11; simp only [List.all_cons, List.all_nil, p1, p2, Bool.and_true, List.length_cons, List.length_nil]; exact decide_eq_true (by omega)
  have q1 : okJ [(b.1, b.2.1, b.2.2.1, b.2.2.2.1, b.2.2.2.2.1, b.2.2.2.2.2), (a.1, a.2.1, a.2.2.1, a.2.2.2.1, a.2.2.2.2.1, a.2.2.2.2.2)] = true := q
  simp only [p1, p2, p3, q, q1, Bool.and_true, cond_true]
  unfold widE
  cases a.1 <;> cases b.1 <;> rfl
theorem ok17 (a : E) (b : E) (st : List Int) (hp : (okRE a && okRE b && okLen st) = true) : ev cx14 17 [aE a, aE b, aLi st] = outV (aE (rwidE a b st)) := by
  rw [raw17]
  simp only [Bool.and_eq_true] at hp; obtain ⟨⟨p1, p2⟩, p3⟩ := hp
  simp only [okRE, Bool.and_eq_true] at p1; obtain ⟨⟨k1, k2⟩, k3⟩ := p1
  have p1 : okRE a = true := by unfold okRE; rw [k1, k2, k3]; rfl
  simp only [p1, p2, p3, k1, k2, k3, Bool.and_true, cond_true]
  unfold rwidE
  cases a.1 <;> cases b.1 <;> rfl
def M16 : List AV → Option (Bool × AV × List Blk)
  | [v_a, v_b, v_st] => (gE v_a).bind fun a => (gE v_b).bind fun b => (gLi v_st).bind fun st => some ((okRE a && okRE b && okLen st), aE (widE a b st), [])
  | _ => none
theorem hM16 (args : List AV) (v : AV) (bs : List Blk) (h : M16 args = some (true, v, bs)) : AV.idsL args = [] ∧ (true = true ∨ (plainV v = true ∧ bs.all plainB = true)) ∧ ∃ fb, ex ((evF cx14 keeps 3 16 args).bind (finP true)) false ⟨[], 0⟩ ⟨[], []⟩ = some (v, ⟨enumB 0 bs, bs.length⟩, fb) := by
  unfold M16 at h
  split at h
  · obtain ⟨a, h_a, h0⟩ := Option.bind_eq_some_iff.1 h
    obtain ⟨b, h_b, h1⟩ := Option.bind_eq_some_iff.1 h0
    obtain ⟨st, h_st, h2⟩ := Option.bind_eq_some_iff.1 h1
    simp only [Option.some.injEq, Prod.mk.injEq] at h2
    obtain ⟨hp, rfl, rfl⟩ := h2
    have e_a := gE_some h_a
    have e_b := gE_some h_b
    have e_st := gLi_some h_st
    subst e_a e_b e_st
    exact ⟨rfl, .inl rfl, ev_ex (ok16 a b st hp)⟩
  · cases h
theorem snd16 : SoundA Try.prog 16 (specP true M16) := soundA_spec (fz := true) (cal14 16) hM16
def M17 : List AV → Option (Bool × AV × List Blk)
  | [v_a, v_b, v_st] => (gE v_a).bind fun a => (gE v_b).bind fun b => (gLi v_st).bind fun st => some ((okRE a && okRE b && okLen st), aE (rwidE a b st), [])
  | _ => none
theorem hM17 (args : List AV) (v : AV) (bs : List Blk) (h : M17 args = some (true, v, bs)) : AV.idsL args = [] ∧ (true = true ∨ (plainV v = true ∧ bs.all plainB = true)) ∧ ∃ fb, ex ((evF cx14 keeps 3 17 args).bind (finP true)) false ⟨[], 0⟩ ⟨[], []⟩ = some (v, ⟨enumB 0 bs, bs.length⟩, fb) := by
  unfold M17 at h
  split at h
  · obtain ⟨a, h_a, h0⟩ := Option.bind_eq_some_iff.1 h
    obtain ⟨b, h_b, h1⟩ := Option.bind_eq_some_iff.1 h0
    obtain ⟨st, h_st, h2⟩ := Option.bind_eq_some_iff.1 h1
    simp only [Option.some.injEq, Prod.mk.injEq] at h2
    obtain ⟨hp, rfl, rfl⟩ := h2
    have e_a := gE_some h_a
    have e_b := gE_some h_b
    have e_st := gLi_some h_st
    subst e_a e_b e_st
    exact ⟨rfl, .inl rfl, ev_ex (ok17 a b st hp)⟩
  · cases h
theorem snd17 : SoundA Try.prog 17 (specP true M17) := soundA_spec (fz := true) (cal14 17) hM17
end Go.Proofs.Ytpahnadbknjepaa.Ex

/- Loops H: where each round begins. -/
namespace Go.Proofs.Ytpahnadbknjepaa.Ex
open Go.Proofs Go.Proofs.Ytpahnadbknjepaa
set_option maxRecDepth 100000
set_option linter.unusedVariables false
set_option linter.unusedSimpArgs false
def spH : Nat → Option (List AV → Prog AV)
  | 46 => some (specP true M46)
  | 55 => some (specP true M55)
  | 45 => some (specP true M45)
  | 37 => some (specP true M37)
  | 38 => some (specP true M38)
  | 31 => some (specP true M31)
  | 36 => some (specP true M36)
  | 43 => some (specP true M43)
  | 44 => some (specP true M44)
  | 50 => some (specP true M50)
  | 54 => some (specP true M54)
  | 20 => some (specP true M20)
  | 39 => some (specP true M39)
  | 26 => some (specP true M26)
  | 52 => some (specP true M52)
  | 51 => some (specP true M51)
  | 40 => some (specP true M40)
  | 29 => some (specP true M29)
  | 42 => some (specP true M42w)
  | 21 => some (specP true M21)
  | 24 => some (specP true M24w)
  | 9 => some (specP true M9)
  | 41 => some (cloneP 16 tI)
  | 23 => some (specP true M23)
  | 11 => some (pickS isNil1 (specP true M11N) (specP true M11L))
  | 33 => some (specP true M33)
  | 53 => some (specP true M53)
  | 34 => some (specP true M34)
  | 16 => some (specP true M16)
  | 17 => some (specP true M17)
  | 28 => some (specP true M28)
  | 35 => some (specP true M35)
  | 30 => some (specP true M30)
  | 22 => some (specP true M22)
  | 15 => some (specP true M15)
  | 8 => some (specP true M8)
  | 13 => some (specP true M13)
  | 14 => some (specP true M14)
  | 10 => some (specP true M10)
  | 12 => some (specP true M12)
  | _ => none
noncomputable def cxH : Ctx := { tab := tab, spec := spH, inl := inl, lps := fun _ _ => none, fuel := 10 }
theorem hspH : ∀ g p, cxH.spec g = some p → SoundA Try.prog g p := by
  intro g p h
  change spH g = some p at h
  unfold spH at h
  split at h
  · cases h; exact snd46
  · cases h; exact snd55
  · cases h; exact snd45
  · cases h; exact snd37
  · cases h; exact snd38
  · cases h; exact snd31
  · cases h; exact snd36
  · cases h; exact snd43
  · cases h; exact snd44
  · cases h; exact snd50
  · cases h; exact snd54
  · cases h; exact snd20
  · cases h; exact snd39
  · cases h; exact snd26
  · cases h; exact snd52
  · cases h; exact snd51
  · cases h; exact snd40
  · cases h; exact snd29
  · cases h; exact snd42w
  · cases h; exact snd21
  · cases h; exact snd24w
  · cases h; exact snd9
  · cases h; exact sndClone
  · cases h; exact snd23
  · cases h; exact (SoundA.pick isNil1 snd11 snd11L)
  · cases h; exact snd33
  · cases h; exact snd53
  · cases h; exact snd34w
  · cases h; exact snd16
  · cases h; exact snd17
  · cases h; exact snd28
  · cases h; exact snd35
  · cases h; exact snd30
  · cases h; exact snd22
  · cases h; exact snd15
  · cases h; exact snd8
  · cases h; exact snd13
  · cases h; exact snd14
  · cases h; exact snd10
  · cases h; exact snd12
  · cases h
theorem inH : InlOk Try.prog cxH := ⟨inl_ok, fun _ _ _ _ _ _ _ _ h => nomatch h⟩
theorem calH : CalOk Try.prog (evF cxH keeps 3) := fun g => evF_sound (tabOk_of tab_ok) (cmpsOk_of tab_ok cmps_ok) mixed inH hspH keeps 3 g
def keepL19 : List Nat := [3, 1, 18, 7, 2, 6]
noncomputable def FL19 (base : Nat) : Tm → Prog (Nat × Tm) := evC cxH (evF cxH keeps 3) ⟨19, 48, keeps 19, base⟩ 0 (bodyX 19 0)
def TL19 (l : List Int) (i : Int) (n : Int) : Tm := [(3, .ptr 0 0), (1, .sl (.int .i64) l), (18, .bool false), (7, .int .i64 i), (2, .int .i64 n), (6, .bool false)]
def HL19 (w : E) : Hp := ⟨[(0, .box [.bool w.1, .sl tI w.2.1, .sl tI w.2.2.1, .sl tI w.2.2.2.1, .int .i64 w.2.2.2.2.1, .int .i64 w.2.2.2.2.2])], 1⟩
end Go.Proofs.Ytpahnadbknjepaa.Ex

/- Loops H: each round. -/
namespace Go.Proofs.Ytpahnadbknjepaa.Ex
open Go.Proofs Go.Proofs.Ytpahnadbknjepaa
set_option maxRecDepth 100000
set_option linter.unusedVariables false
set_option linter.unusedSimpArgs false
theorem rnd19 {R : Type} (l : List Int) (i : Int) (n : Int) (w : E) (K : Nat → Tm → Hp → Option R) : round 0 keepL19 (FL19 0) (TL19 l i n) (HL19 w) K =
  bif Decidable.decide (i < (↑l.length : Int)) then
    bif Decidable.decide (0 ≤ i) then
      Go.Proofs.Ytpahnadbknjepaa.Ex.optC w.snd.fst[i.toNat]? Option.none fun d6 ↦
        bif Decidable.decide (0 ≤ i) then
          Go.Proofs.Ytpahnadbknjepaa.Ex.optC l[i.toNat]? Option.none fun d7 ↦
            bif !Go.Proofs.Ytpahnadbknjepaa.Ex.hasB d6 d7 then
              K 1
                [(3, Go.Proofs.Ytpahnadbknjepaa.Ex.AV.ptr 0 0), (1, Go.Proofs.Ytpahnadbknjepaa.Ex.AV.sl (Go.Proofs.Ytpahnadbknjepaa.Ex.Ty.int Go.IntKind.i64) l), (18, Go.Proofs.Ytpahnadbknjepaa.Ex.AV.bool Bool.false), (7, Go.Proofs.Ytpahnadbknjepaa.Ex.AV.int Go.IntKind.i64 i), (2, Go.Proofs.Ytpahnadbknjepaa.Ex.AV.int Go.IntKind.i64 n),
                  (6, Go.Proofs.Ytpahnadbknjepaa.Ex.AV.bool Bool.false)]
                {
                  blks :=
                    [(0,
                        Go.Proofs.Ytpahnadbknjepaa.Ex.Blk.box
                          [Go.Proofs.Ytpahnadbknjepaa.Ex.AV.bool w.fst, Go.Proofs.Ytpahnadbknjepaa.Ex.AV.sl ((Go.Proofs.Ytpahnadbknjepaa.Ex.Ty.int Go.IntKind.i64).pair (Go.Proofs.Ytpahnadbknjepaa.Ex.Ty.int Go.IntKind.i64)).st w.snd.fst,
                            Go.Proofs.Ytpahnadbknjepaa.Ex.AV.sl ((Go.Proofs.Ytpahnadbknjepaa.Ex.Ty.int Go.IntKind.i64).pair (Go.Proofs.Ytpahnadbknjepaa.Ex.Ty.int Go.IntKind.i64)).st w.snd.snd.fst,
                            Go.Proofs.Ytpahnadbknjepaa.Ex.AV.sl ((Go.Proofs.Ytpahnadbknjepaa.Ex.Ty.int Go.IntKind.i64).pair (Go.Proofs.Ytpahnadbknjepaa.Ex.Ty.int Go.IntKind.i64)).st w.snd.snd.snd.fst, Go.Proofs.Ytpahnadbknjepaa.Ex.AV.int Go.IntKind.i64 w.snd.snd.snd.snd.fst,
                            Go.Proofs.Ytpahnadbknjepaa.Ex.AV.int Go.IntKind.i64 w.snd.snd.snd.snd.snd])],
                  c := 1 }
            else
              K 0
                [(3, Go.Proofs.Ytpahnadbknjepaa.Ex.AV.ptr 0 0), (1, Go.Proofs.Ytpahnadbknjepaa.Ex.AV.sl (Go.Proofs.Ytpahnadbknjepaa.Ex.Ty.int Go.IntKind.i64) l), (18, Go.Proofs.Ytpahnadbknjepaa.Ex.AV.bool Bool.false), (7, Go.Proofs.Ytpahnadbknjepaa.Ex.AV.int Go.IntKind.i64 (Go.IntKind.i64.wrap (i + 1))),
                  (2, Go.Proofs.Ytpahnadbknjepaa.Ex.AV.int Go.IntKind.i64 n), (6, Go.Proofs.Ytpahnadbknjepaa.Ex.AV.bool Bool.false)]
                {
                  blks :=
                    [(0,
                        Go.Proofs.Ytpahnadbknjepaa.Ex.Blk.box
                          [Go.Proofs.Ytpahnadbknjepaa.Ex.AV.bool w.fst, Go.Proofs.Ytpahnadbknjepaa.Ex.AV.sl ((Go.Proofs.Ytpahnadbknjepaa.Ex.Ty.int Go.IntKind.i64).pair (Go.Proofs.Ytpahnadbknjepaa.Ex.Ty.int Go.IntKind.i64)).st w.snd.fst,
                            Go.Proofs.Ytpahnadbknjepaa.Ex.AV.sl ((Go.Proofs.Ytpahnadbknjepaa.Ex.Ty.int Go.IntKind.i64).pair (Go.Proofs.Ytpahnadbknjepaa.Ex.Ty.int Go.IntKind.i64)).st w.snd.snd.fst,
                            Go.Proofs.Ytpahnadbknjepaa.Ex.AV.sl ((Go.Proofs.Ytpahnadbknjepaa.Ex.Ty.int Go.IntKind.i64).pair (Go.Proofs.Ytpahnadbknjepaa.Ex.Ty.int Go.IntKind.i64)).st w.snd.snd.snd.fst, Go.Proofs.Ytpahnadbknjepaa.Ex.AV.int Go.IntKind.i64 w.snd.snd.snd.snd.fst,
                            Go.Proofs.Ytpahnadbknjepaa.Ex.AV.int Go.IntKind.i64 w.snd.snd.snd.snd.snd])],
                  c := 1 }
        else Option.none
    else Option.none
  else
    K 2
      [(3, Go.Proofs.Ytpahnadbknjepaa.Ex.AV.ptr 0 0), (1, Go.Proofs.Ytpahnadbknjepaa.Ex.AV.sl (Go.Proofs.Ytpahnadbknjepaa.Ex.Ty.int Go.IntKind.i64) l), (18, Go.Proofs.Ytpahnadbknjepaa.Ex.AV.bool Bool.false), (7, Go.Proofs.Ytpahnadbknjepaa.Ex.AV.int Go.IntKind.i64 i), (2, Go.Proofs.Ytpahnadbknjepaa.Ex.AV.int Go.IntKind.i64 n),
        (6, Go.Proofs.Ytpahnadbknjepaa.Ex.AV.bool Bool.false)]
      {
        blks :=
          [(0,
              Go.Proofs.Ytpahnadbknjepaa.Ex.Blk.box
                [Go.Proofs.Ytpahnadbknjepaa.Ex.AV.bool w.fst, Go.Proofs.Ytpahnadbknjepaa.Ex.AV.sl ((Go.Proofs.Ytpahnadbknjepaa.Ex.Ty.int Go.IntKind.i64).pair (Go.Proofs.Ytpahnadbknjepaa.Ex.Ty.int Go.IntKind.i64)).st w.snd.fst,
                  Go.Proofs.Ytpahnadbknjepaa.Ex.AV.sl ((Go.Proofs.Ytpahnadbknjepaa.Ex.Ty.int Go.IntKind.i64).pair (Go.Proofs.Ytpahnadbknjepaa.Ex.Ty.int Go.IntKind.i64)).st w.snd.snd.fst,
                  Go.Proofs.Ytpahnadbknjepaa.Ex.AV.sl ((Go.Proofs.Ytpahnadbknjepaa.Ex.Ty.int Go.IntKind.i64).pair (Go.Proofs.Ytpahnadbknjepaa.Ex.Ty.int Go.IntKind.i64)).st w.snd.snd.snd.fst, Go.Proofs.Ytpahnadbknjepaa.Ex.AV.int Go.IntKind.i64 w.snd.snd.snd.snd.fst,
                  Go.Proofs.Ytpahnadbknjepaa.Ex.AV.int Go.IntKind.i64 w.snd.snd.snd.snd.snd])],
        c := 1 } := by kernel_rfl
end Go.Proofs.Ytpahnadbknjepaa.Ex

/- Loops H: what they come to. -/
namespace Go.Proofs.Ytpahnadbknjepaa.Ex
open Go.Proofs Go.Proofs.Ytpahnadbknjepaa
set_option maxRecDepth 100000
set_option linter.unusedVariables false
set_option linter.unusedSimpArgs false
def stepL19 (n : Int) (w : E)  (i : Nat)  (d : Int) : (Unit) ⊕ (Nat) := if hasB ((w.2.1[i]?).getD nn) d then .inl () else .inr i
def allL19 (n : Int) (w : E) (l0 : List Int) : Bool := l0.all fun d => Nat.beq w.2.1.length l0.length
def outL19 (n : Int) (w : E) (l : List Int) : (Nat) → Out3 := fun e2 => ((1, TL19 l (e2 : Nat) n), HL19 w)
def vL19 (n : Int) (w : E) (l : List Int) (s : Unit) : (Unit) ⊕ (Nat) := runS (fun i s d => stepL19 n w  i  d) 0 l s
theorem runL19 (n : Int) (w : E) (l : List Int) (hl : l.length ≤ 4611686018427387904) (ha : allL19 n w l = true) (s : Unit)  :
    go (iterM 0 keepL19 (FL19 0) (l.length + 1) (TL19 l 0 n)) (HL19 w) = some ((vL19 n w l s).elim (fun s => (((2, TL19 l (l.length : Nat) n), HL19 w) : Out3)) (outL19 n w l)) := by
  have key := range_loop (keep := keepL19) (F := FL19 0) (fun i s => True) l (fun i s => TL19 l (i : Nat) n) (fun i s => HL19 w) (fun i s d => (stepL19 n w  i  d).elim .inl (fun e =>   .inr (outL19 n w l e))) (fun s => (((2, TL19 l (l.length : Nat) n), HL19 w) : Out3)) ?_ ?_ ?_ ?_ ?_ l 0 s rfl (Nat.zero_le _) trivial
  · rw [runL_elim] at key
    exact key
  · intro i s d hi hd hm hI K
    have ha := List.all_eq_true.1 ha d hm
    rw [rnd19]
    have e1 : decide ((i : Int) < ((l.length : Nat) : Int)) = true := decide_eq_true (by omega)
    have e2 : decide (0 ≤ (i : Int)) = true := decide_eq_true (by omega)
    rw [e1, e2, Int.toNat_natCast, wrap_up hi hl]
    rw [hd]
    have hb : i < w.2.1.length := by rw [nb_iff.1 ha]; exact hi
    obtain ⟨d2, hd2⟩ : ∃ d2, (w.2.1)[i]? = some d2 := ⟨(w.2.1)[i], List.getElem?_eq_getElem hb⟩
    have es : stepL19 n w i d = if hasB d2 d then .inl () else .inr i := by unfold stepL19; rw [hd2]; rfl
    rw [es, hd2]; simp only [optC, cond_true]; cases hasB d2 d <;> rfl
  · intros; trivial
  · intro i s d x e; revert e; cases stepL19 n w  i  d with | inl a => intro e; cases e | inr a => intro e; cases e; exact nofun
  · intro s K
    rw [rnd19]
    have e1 : decide (((l.length : Nat) : Int) < ((l.length : Nat) : Int)) = false := decide_eq_false (by omega)
    rw [e1]
    rfl
  · intro s; exact nofun
def dT19 : Tm → Option (List Int × Int × Int)
  | [(3, .ptr 0 0), (1, .sl (.int .i64) l), (18, .bool false), (7, .int .i64 i), (2, .int .i64 n), (6, .bool false)] => some (l, i, n)
  | _ => none
def dH19 : Hp → Option (E)
  | ⟨[(0, .box [.bool w1, .sl (.st (.pair (.int .i64) (.int .i64))) w2, .sl (.st (.pair (.int .i64) (.int .i64))) w3, .sl (.st (.pair (.int .i64) (.int .i64))) w4, .int .i64 w5, .int .i64 w6])], 1⟩ => some (w1, w2, w3, w4, w5, w6)
  | _ => none
theorem dT19_some {T : Tm} {t : List Int × Int × Int} (e : dT19 T = some t) : T = TL19 (t.1) (t.2.1) (t.2.2) := by
  unfold dT19 at e
  split at e
  · cases e; rfl
  · cases e
theorem dH19_some {h : Hp} {u : E} (e : dH19 h = some u) : h = HL19 (u) := by
  unfold dH19 at e
  split at e
  · cases e; rfl
  · cases e
def qL19 (base : Nat) (T : Tm) : Prog (Nat × Tm) := match base with
  | 0 => match dT19 T with
    | some t => loopB dH19 (fun u => ((t.2.1) == 0) && decide (((t.1).length : Int) ≤ 4611686018427387904) && allL19 (t.2.2) (u) (t.1)) (fun u => vL19 (t.2.2) (u) (t.1) ()) (fun u s => (((2, TL19 (t.1) ((t.1).length : Nat) (t.2.2)), HL19 (u)) : Out3)) (fun u e => outL19 (t.2.2) (u) (t.1) e)
    | none => .fail
  | _ + 1 => .fail
theorem qgo19 (base : Nat) (T : Tm) (h : Hp) (r : Nat × Tm) (h' : Hp) (e : go (qL19 base T) h = some (r, h')) : ∃ m, go (iterM base keepL19 (FL19 base) m T) h = some (r, h') := by
  unfold qL19 at e
  split at e
  · split at e
    · rename_i t ht
      obtain ⟨u, hu, c, e2⟩ := loopB_go e
      rw [dT19_some ht, dH19_some hu]
      simp only [Bool.and_eq_true, beq_iff_eq, decide_eq_true_eq] at c
      skip
      obtain ⟨c, ca⟩ := c
      obtain ⟨c1, c3⟩ := c
      refine ⟨(t.1).length + 1, ?_⟩
      rw [c1]
      rw [e2]
      have := runL19 (t.2.2) (u) (t.1) (by omega) ca () 
      revert this; unfold Sum.elim; cases vL19 (t.2.2) (u) (t.1) () <;> exact id
    · cases e
  · cases e
noncomputable def lpL19 (base : Nat) (T : Tm) : Prog (Nat × Tm) := .norm base keepL19 T (qL19 base)
theorem sndL19 : SoundC Try.prog 48 (.loop (bodyX 19 0)) lpL19 :=
  loop_sound (cx := cxH) (cal := evF cxH keeps 3) (kp := keeps 19) (tabOk_of tab_ok) (cmpsOk_of tab_ok cmps_ok) calH mixed (by intro q hq p hp; cases hp) qgo19
end Go.Proofs.Ytpahnadbknjepaa.Ex

/- Contracts, level 16. -/
namespace Go.Proofs.Ytpahnadbknjepaa.Ex
open Go.Proofs Go.Proofs.Ytpahnadbknjepaa
set_option maxRecDepth 100000
set_option linter.unusedSimpArgs false
set_option linter.unusedVariables false
def andNV (a b : Int) : Int := IntKind.i64.wrap (BitVec.ofInt IntKind.i64.bits a &&& ~~~(BitVec.ofInt IntKind.i64.bits b)).toNat
def rhasE (w : E) (l : List Int) (n : Int) : Bool := w.1 && l.length == w.2.1.length && allIx (fun i d => hasB ((w.2.1[i]?).getD nn) d) 0 l && andNV w.2.2.2.2.1 n == 0 && andNV n w.2.2.2.2.2 == 0
def rleqE (a b : E) : Bool := !a.1 || (b.1 && belowB a.2.1 b.2.1 && belowB a.2.2.1 b.2.2.1 && belowB a.2.2.2.1 b.2.2.2.1 && andNV b.2.2.2.2.1 a.2.2.2.2.1 == 0 && andNV a.2.2.2.2.2 b.2.2.2.2.2 == 0)
def sp16 : Nat → Option (List AV → Prog AV)
  | 46 => some (specP true M46)
  | 55 => some (specP true M55)
  | 45 => some (specP true M45)
  | 37 => some (specP true M37)
  | 38 => some (specP true M38)
  | 31 => some (specP true M31)
  | 36 => some (specP true M36)
  | 43 => some (specP true M43)
  | 44 => some (specP true M44)
  | 50 => some (specP true M50)
  | 54 => some (specP true M54)
  | 20 => some (specP true M20)
  | 39 => some (specP true M39)
  | 26 => some (specP true M26)
  | 52 => some (specP true M52)
  | 51 => some (specP true M51)
  | 40 => some (specP true M40)
  | 29 => some (specP true M29)
  | 42 => some (specP true M42w)
  | 21 => some (specP true M21)
  | 24 => some (specP true M24w)
  | 9 => some (specP true M9)
  | 41 => some (cloneP 16 tI)
  | 23 => some (specP true M23)
  | 11 => some (pickS isNil1 (specP true M11N) (specP true M11L))
  | 33 => some (specP true M33)
  | 53 => some (specP true M53)
  | 34 => some (specP true M34)
  | 16 => some (specP true M16)
  | 17 => some (specP true M17)
  | 28 => some (specP true M28)
  | 35 => some (specP true M35)
  | 30 => some (specP true M30)
  | 22 => some (specP true M22)
  | 15 => some (specP true M15)
  | 8 => some (specP true M8)
  | 13 => some (specP true M13)
  | 14 => some (specP true M14)
  | 10 => some (specP true M10)
  | 12 => some (specP true M12)
  | _ => none
noncomputable def lp16 : Nat → Nat → Option (Nat → Tm → Prog (Nat × Tm))
  | 19, 0 => some lpL19
  | _, _ => none
noncomputable def cx16 : Ctx := { tab := tab, spec := sp16, inl := inl, lps := lp16, fuel := 10 }
theorem hsp16 : ∀ g p, cx16.spec g = some p → SoundA Try.prog g p := by
  intro g p h
  change sp16 g = some p at h
  unfold sp16 at h
  split at h
  · cases h; exact snd46
  · cases h; exact snd55
  · cases h; exact snd45
  · cases h; exact snd37
  · cases h; exact snd38
  · cases h; exact snd31
  · cases h; exact snd36
  · cases h; exact snd43
  · cases h; exact snd44
  · cases h; exact snd50
  · cases h; exact snd54
  · cases h; exact snd20
  · cases h; exact snd39
  · cases h; exact snd26
  · cases h; exact snd52
  · cases h; exact snd51
  · cases h; exact snd40
  · cases h; exact snd29
  · cases h; exact snd42w
  · cases h; exact snd21
  · cases h; exact snd24w
  · cases h; exact snd9
  · cases h; exact sndClone
  · cases h; exact snd23
  · cases h; exact (SoundA.pick isNil1 snd11 snd11L)
  · cases h; exact snd33
  · cases h; exact snd53
  · cases h; exact snd34w
  · cases h; exact snd16
  · cases h; exact snd17
  · cases h; exact snd28
  · cases h; exact snd35
  · cases h; exact snd30
  · cases h; exact snd22
  · cases h; exact snd15
  · cases h; exact snd8
  · cases h; exact snd13
  · cases h; exact snd14
  · cases h; exact snd10
  · cases h; exact snd12
  · cases h
theorem in16 : InlOk Try.prog cx16 := ⟨inl_ok, fun g fn c hg hb q hq p hp => by
  change lp16 g q.1 = some p at hp
  change inl g = some fn at hg
  generalize hq1 : q.1 = b at hp
  unfold lp16 at hp
  split at hp
  · cases hp; exact lps_case (inl := inl) hg hb hq hq1 (by kernel_rfl) (by kernel_rfl) sndL19
  · cases hp⟩
theorem cal16 (g : Nat) : SoundA Try.prog g (evF cx16 keeps 3 g) := evF_sound (tabOk_of tab_ok) (cmpsOk_of tab_ok cmps_ok) mixed in16 hsp16 keeps 3 g
end Go.Proofs.Ytpahnadbknjepaa.Ex

/- What is run, level 16. -/
namespace Go.Proofs.Ytpahnadbknjepaa.Ex
open Go.Proofs Go.Proofs.Ytpahnadbknjepaa
set_option maxRecDepth 100000
theorem raw19 (w : E) (l : List Int) (n : Int) : ev cx16 19 [aE w, aLi l, aN n] =
  bif !w.fst then Option.some (Go.Proofs.Ytpahnadbknjepaa.Ex.AV.bool Bool.false, { blks := [], c := 0 })
  else
    bif (↑l.length : Int) != (↑w.snd.fst.length : Int) then Option.some (Go.Proofs.Ytpahnadbknjepaa.Ex.AV.bool Bool.false, { blks := [], c := 0 })
    else
      bif 0 == 0 && Decidable.decide ((↑l.length : Int) ≤ 4611686018427387904) && Go.Proofs.Ytpahnadbknjepaa.Ex.allL19 n w l then
        Sum.elim
          (fun e3 ↦
            bif Go.IntKind.i64.wrap (↑(BitVec.ofInt Go.IntKind.i64.bits w.snd.snd.snd.snd.fst &&& ~~~BitVec.ofInt Go.IntKind.i64.bits n).toNat : Int) == 0 then
              Option.some
                (Go.Proofs.Ytpahnadbknjepaa.Ex.AV.bool (Go.IntKind.i64.wrap (↑(BitVec.ofInt Go.IntKind.i64.bits n &&& ~~~BitVec.ofInt Go.IntKind.i64.bits w.snd.snd.snd.snd.snd).toNat : Int) == 0), { blks := [], c := 0 })
            else Option.some (Go.Proofs.Ytpahnadbknjepaa.Ex.AV.bool Bool.false, { blks := [], c := 0 }))
          (fun e3 ↦ Option.some (Go.Proofs.Ytpahnadbknjepaa.Ex.AV.bool Bool.false, { blks := [], c := 0 })) (Go.Proofs.Ytpahnadbknjepaa.Ex.vL19 n w l ())
      else Option.none := by kernel_rfl
theorem raw18 (a : E) (b : E) : ev cx16 18 [aE a, aE b] =
  bif !a.fst then Option.some (Go.Proofs.Ytpahnadbknjepaa.Ex.AV.bool Bool.true, { blks := [], c := 0 })
  else
    bif b.fst then
      bif Go.Proofs.Ytpahnadbknjepaa.Ex.okL a.snd.fst then
        bif Go.Proofs.Ytpahnadbknjepaa.Ex.belowB a.snd.fst b.snd.fst then
          bif Go.Proofs.Ytpahnadbknjepaa.Ex.okL a.snd.snd.fst then
            bif Go.Proofs.Ytpahnadbknjepaa.Ex.belowB a.snd.snd.fst b.snd.snd.fst then
              bif Go.Proofs.Ytpahnadbknjepaa.Ex.okL a.snd.snd.snd.fst then
                bif Go.Proofs.Ytpahnadbknjepaa.Ex.belowB a.snd.snd.snd.fst b.snd.snd.snd.fst then
                  bif Go.IntKind.i64.wrap (↑(BitVec.ofInt Go.IntKind.i64.bits b.snd.snd.snd.snd.fst &&& ~~~BitVec.ofInt Go.IntKind.i64.bits a.snd.snd.snd.snd.fst).toNat : Int) == 0 then
                    Option.some
                      (Go.Proofs.Ytpahnadbknjepaa.Ex.AV.bool (Go.IntKind.i64.wrap (↑(BitVec.ofInt Go.IntKind.i64.bits a.snd.snd.snd.snd.snd &&& ~~~BitVec.ofInt Go.IntKind.i64.bits b.snd.snd.snd.snd.snd).toNat : Int) == 0),
                        { blks := [], c := 0 })
                  else Option.some (Go.Proofs.Ytpahnadbknjepaa.Ex.AV.bool Bool.false, { blks := [], c := 0 })
                else Option.some (Go.Proofs.Ytpahnadbknjepaa.Ex.AV.bool Bool.false, { blks := [], c := 0 })
              else Option.none
            else Option.some (Go.Proofs.Ytpahnadbknjepaa.Ex.AV.bool Bool.false, { blks := [], c := 0 })
          else Option.none
        else Option.some (Go.Proofs.Ytpahnadbknjepaa.Ex.AV.bool Bool.false, { blks := [], c := 0 })
      else Option.none
    else Option.some (Go.Proofs.Ytpahnadbknjepaa.Ex.AV.bool Bool.false, { blks := [], c := 0 }) := by kernel_rfl
end Go.Proofs.Ytpahnadbknjepaa.Ex

/- Contracts, level 16. -/
namespace Go.Proofs.Ytpahnadbknjepaa.Ex
open Go.Proofs Go.Proofs.Ytpahnadbknjepaa
set_option maxRecDepth 100000
set_option linter.unusedSimpArgs false
set_option linter.unusedVariables false
theorem ok19 (w : E) (l : List Int) (n : Int) (hp : okLn l = true) : ev cx16 19 [aE w, aLi l, aN n] = outV (.bool (rhasE w l n)) := by
  rw [raw19]
  have e0 : vL19 n w l () = runS (fun i (_ : Unit) d => if (fun (i : Nat) (d : Int) => hasB ((w.2.1[i]?).getD nn) d) i d then (.inl () : Unit ⊕ Nat) else .inr i) 0 l () := rfl
  rw [e0, elim_all (fun (i : Nat) (d : Int) => hasB ((w.2.1[i]?).getD nn) d)]
  unfold okLn at hp; rw [hp, bne_nat]; rw [show rhasE w l n = (w.1 && l.length == w.2.1.length && allIx (fun (i : Nat) (d : Int) => hasB ((w.2.1[i]?).getD nn) d) 0 l && andNV w.2.2.2.2.1 n == 0 && andNV n w.2.2.2.2.2 == 0) from rfl]
  cases w.1
  · rfl
  by_cases h : l.length = w.2.1.length
  · have ha : allL19 n w l = true := by unfold allL19; rw [List.all_eq_true]; intro d _; exact nb_iff.2 h.symm
    rw [ha, show (l.length == w.2.1.length) = true by simp [h]]
    simp only [beq_self_eq_true, Bool.and_true, cond_true, Bool.not_true, cond_false]; cases allIx (fun (i : Nat) (d : Int) => hasB ((w.2.1[i]?).getD nn) d) 0 l
    · rfl
    cases h1 : (andNV w.2.2.2.2.1 n == 0)
    · have h1' : (IntKind.i64.wrap (BitVec.ofInt IntKind.i64.bits w.2.2.2.2.1 &&& ~~~(BitVec.ofInt IntKind.i64.bits n)).toNat == 0) = false := h1
      first | rfl | (simp only [h1']; rfl)
    · have h1' : (IntKind.i64.wrap (BitVec.ofInt IntKind.i64.bits w.2.2.2.2.1 &&& ~~~(BitVec.ofInt IntKind.i64.bits n)).toNat == 0) = true := h1
      first | rfl | (simp only [h1']; rfl)
  · rw [show (l.length == w.2.1.length) = false by simp [h]]; rfl
theorem ok18 (a : E) (b : E) (hp : okE a = true) : ev cx16 18 [aE a, aE b] = outV (.bool (rleqE a b)) := by
  rw [raw18]
  simp only [okE, Bool.and_eq_true] at hp; obtain ⟨⟨p1, p2⟩, p3⟩ := hp; rw [p1, p2, p3]; simp only [cond_true]
  unfold rleqE
  cases a.1 <;> cases b.1 <;> cases belowB a.2.1 b.2.1 <;> cases belowB a.2.2.1 b.2.2.1 <;> cases belowB a.2.2.2.1 b.2.2.2.1 <;> first | rfl | skip
  have e1 : ∀ x y, (IntKind.i64.wrap (BitVec.ofInt IntKind.i64.bits x &&& ~~~(BitVec.ofInt IntKind.i64.bits y)).toNat == 0) = (andNV x y == 0) := fun _ _ => rfl
  simp only [e1]
  cases (andNV b.2.2.2.2.1 a.2.2.2.2.1 == 0) <;> rfl
def M19 : List AV → Option (Bool × AV × List Blk)
  | [v_w, v_l, v_n] => (gE v_w).bind fun w => (gLi v_l).bind fun l => (gN v_n).bind fun n => some (okLn l, .bool (rhasE w l n), [])
  | _ => none
theorem hM19 (args : List AV) (v : AV) (bs : List Blk) (h : M19 args = some (true, v, bs)) : AV.idsL args = [] ∧ (true = true ∨ (plainV v = true ∧ bs.all plainB = true)) ∧ ∃ fb, ex ((evF cx16 keeps 3 19 args).bind (finP true)) false ⟨[], 0⟩ ⟨[], []⟩ = some (v, ⟨enumB 0 bs, bs.length⟩, fb) := by
  unfold M19 at h
  split at h
  · obtain ⟨w, h_w, h0⟩ := Option.bind_eq_some_iff.1 h
    obtain ⟨l, h_l, h1⟩ := Option.bind_eq_some_iff.1 h0
    obtain ⟨n, h_n, h2⟩ := Option.bind_eq_some_iff.1 h1
    simp only [Option.some.injEq, Prod.mk.injEq] at h2
    obtain ⟨hp, rfl, rfl⟩ := h2
    have e_w := gE_some h_w
    have e_l := gLi_some h_l
    have e_n := gN_some h_n
    subst e_w e_l e_n
    exact ⟨rfl, .inl rfl, ev_ex (ok19 w l n hp)⟩
  · cases h
theorem snd19 : SoundA Try.prog 19 (specP true M19) := soundA_spec (fz := true) (cal16 19) hM19
def M18 : List AV → Option (Bool × AV × List Blk)
  | [v_a, v_b] => (gE v_a).bind fun a => (gE v_b).bind fun b => some (okE a, .bool (rleqE a b), [])
  | _ => none
theorem hM18 (args : List AV) (v : AV) (bs : List Blk) (h : M18 args = some (true, v, bs)) : AV.idsL args = [] ∧ (true = true ∨ (plainV v = true ∧ bs.all plainB = true)) ∧ ∃ fb, ex ((evF cx16 keeps 3 18 args).bind (finP true)) false ⟨[], 0⟩ ⟨[], []⟩ = some (v, ⟨enumB 0 bs, bs.length⟩, fb) := by
  unfold M18 at h
  split at h
  · obtain ⟨a, h_a, h0⟩ := Option.bind_eq_some_iff.1 h
    obtain ⟨b, h_b, h1⟩ := Option.bind_eq_some_iff.1 h0
    simp only [Option.some.injEq, Prod.mk.injEq] at h1
    obtain ⟨hp, rfl, rfl⟩ := h1
    have e_a := gE_some h_a
    have e_b := gE_some h_b
    subst e_a e_b
    exact ⟨rfl, .inl rfl, ev_ex (ok18 a b hp)⟩
  · cases h
theorem snd18 : SoundA Try.prog 18 (specP true M18) := soundA_spec (fz := true) (cal16 18) hM18
end Go.Proofs.Ytpahnadbknjepaa.Ex

