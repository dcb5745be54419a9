/- A part of the proofs of the laws of environments: XO. -/
import Derived.Test.YtpahnadbknjepaaXK
import Derived.Test.YtpahnadbknjepaaXL
/- Loops Q: where each round begins. -/
namespace Go.Proofs.Ytpahnadbknjepaa.Ex
open Go.Proofs Go.Proofs.Ytpahnadbknjepaa
set_option maxRecDepth 100000
set_option linter.unusedVariables false
set_option linter.unusedSimpArgs false
def spQ : Nat → Option (List AV → Prog AV)
  | 46 => some (specP true M46)
  | 55 => some (specP true M55)
  | 45 => some (specP true M45)
  | 37 => some (specP true M37)
  | 38 => some (specP true M38)
  | 31 => some (specP true M31)
  | 36 => some (specP true M36)
  | 43 => some (specP true M43)
  | 44 => some (specP true M44)
  | 50 => some (specP true M50)
  | 54 => some (specP true M54)
  | 20 => some (specP true M20)
  | 39 => some (specP true M39)
  | 26 => some (specP true M26)
  | 52 => some (specP true M52)
  | 51 => some (specP true M51)
  | 40 => some (specP true M40)
  | 29 => some (specP true M29)
  | 42 => some (specP true M42w)
  | 21 => some (specP true M21)
  | 24 => some (specP true M24w)
  | 9 => some (specP true M9)
  | 41 => some (cloneP 16 tI)
  | 23 => some (specP true M23)
  | 11 => some (pickS isNil1 (specP true M11N) (specP true M11L))
  | 33 => some (specP true M33)
  | 53 => some (specP true M53)
  | 34 => some (specP true M34)
  | 16 => some (specP true M16)
  | 17 => some (specP true M17)
  | 28 => some (specP true M28)
  | 35 => some (specP true M35)
  | 30 => some (specP true M30)
  | 22 => some (specP true M22)
  | 15 => some (specP true M15)
  | 8 => some (specP true M8)
  | 13 => some (specP true M13)
  | 14 => some (specP true M14)
  | 10 => some (specP true M10)
  | 12 => some (specP true M12)
  | 19 => some (specP true M19)
  | 18 => some (specP true M18)
  | _ => none
noncomputable def cxQ : Ctx := { tab := tab, spec := spQ, inl := inl, lps := fun _ _ => none, fuel := 10 }
theorem hspQ : ∀ g p, cxQ.spec g = some p → SoundA Try.prog g p := by
  intro g p h
  change spQ g = some p at h
  unfold spQ at h
  split at h
  · cases h; exact snd46
  · cases h; exact snd55
  · cases h; exact snd45
  · cases h; exact snd37
  · cases h; exact snd38
  · cases h; exact snd31
  · cases h; exact snd36
  · cases h; exact snd43
  · cases h; exact snd44
  · cases h; exact snd50
  · cases h; exact snd54
  · cases h; exact snd20
  · cases h; exact snd39
  · cases h; exact snd26
  · cases h; exact snd52
  · cases h; exact snd51
  · cases h; exact snd40
  · cases h; exact snd29
  · cases h; exact snd42w
  · cases h; exact snd21
  · cases h; exact snd24w
  · cases h; exact snd9
  · cases h; exact sndClone
  · cases h; exact snd23
  · cases h; exact (SoundA.pick isNil1 snd11 snd11L)
  · cases h; exact snd33
  · cases h; exact snd53
  · cases h; exact snd34w
  · cases h; exact snd16
  · cases h; exact snd17
  · cases h; exact snd28
  · cases h; exact snd35
  · cases h; exact snd30
  · cases h; exact snd22
  · cases h; exact snd15
  · cases h; exact snd8
  · cases h; exact snd13
  · cases h; exact snd14
  · cases h; exact snd10
  · cases h; exact snd12
  · cases h; exact snd19
  · cases h; exact snd18
  · cases h
theorem inQ : InlOk Try.prog cxQ := ⟨inl_ok, fun _ _ _ _ _ _ _ _ h => nomatch h⟩
theorem calQ : CalOk Try.prog (evF cxQ keeps 3) := fun g => evF_sound (tabOk_of tab_ok) (cmpsOk_of tab_ok cmps_ok) mixed inQ hspQ keeps 3 g
theorem okRE_rjoin {a b : E} (ha : okRE a = true) (hb : okRE b = true) : okRE (rjoinE a b) = true := by
  unfold rjoinE
  cases b.1 <;> cases a.1
  · rfl
  · exact ha
  · exact hb
  · simp only [Bool.not_true, cond_false]
    unfold okRE okR at ha ⊢
    unfold rmergeE
    simp only [rjoinR_eq, mapIx_len]
    exact ha
def keepL3m : List Nat := [0, 4, 3, 2]
noncomputable def FL3m (base : Nat) : Tm → Prog (Nat × Tm) := evC cxQ (evF cxQ keeps 3) ⟨3, 60, keeps 3, base⟩ 0 (bodyX 3 0)
def TL3m (l : List E) (i : Int) : Tm := [(0, .sl (.st (.pair .bool (.pair (.sl (.st (.pair (.int .i64) (.int .i64)))) (.pair (.sl (.st (.pair (.int .i64) (.int .i64)))) (.pair (.sl (.st (.pair (.int .i64) (.int .i64)))) (.pair (.int .i64) (.int .i64))))))) l), (4, .int .i64 i), (3, .ptr 0 0), (2, .bool false)]
def HL3m (x : E) : Hp := ⟨[(0, .box [.bool x.1, .sl tI x.2.1, .sl tI x.2.2.1, .sl tI x.2.2.2.1, .int .i64 x.2.2.2.2.1, .int .i64 x.2.2.2.2.2])], 1⟩
end Go.Proofs.Ytpahnadbknjepaa.Ex

/- Loops Q: each round. -/
namespace Go.Proofs.Ytpahnadbknjepaa.Ex
open Go.Proofs Go.Proofs.Ytpahnadbknjepaa
set_option maxRecDepth 100000
set_option linter.unusedVariables false
set_option linter.unusedSimpArgs false
theorem rnd3m {R : Type} (l : List E) (i : Int) (x : E) (K : Nat → Tm → Hp → Option R) : round 0 keepL3m (FL3m 0) (TL3m l i) (HL3m x) K =
  bif Decidable.decide (i < (↑l.length : Int)) then
    bif Decidable.decide (0 ≤ i) then
      Go.Proofs.Ytpahnadbknjepaa.Ex.optC l[i.toNat]? Option.none fun d5 ↦
        bif Go.Proofs.Ytpahnadbknjepaa.Ex.okRE x then
          K 0
            [(0,
                Go.Proofs.Ytpahnadbknjepaa.Ex.AV.sl
                  (Go.Proofs.Ytpahnadbknjepaa.Ex.Ty.bool.pair
                      (((Go.Proofs.Ytpahnadbknjepaa.Ex.Ty.int Go.IntKind.i64).pair (Go.Proofs.Ytpahnadbknjepaa.Ex.Ty.int Go.IntKind.i64)).st.sl.pair
                        (((Go.Proofs.Ytpahnadbknjepaa.Ex.Ty.int Go.IntKind.i64).pair (Go.Proofs.Ytpahnadbknjepaa.Ex.Ty.int Go.IntKind.i64)).st.sl.pair
                          (((Go.Proofs.Ytpahnadbknjepaa.Ex.Ty.int Go.IntKind.i64).pair (Go.Proofs.Ytpahnadbknjepaa.Ex.Ty.int Go.IntKind.i64)).st.sl.pair ((Go.Proofs.Ytpahnadbknjepaa.Ex.Ty.int Go.IntKind.i64).pair (Go.Proofs.Ytpahnadbknjepaa.Ex.Ty.int Go.IntKind.i64)))))).st
                  l),
              (4, Go.Proofs.Ytpahnadbknjepaa.Ex.AV.int Go.IntKind.i64 (Go.IntKind.i64.wrap (i + 1))), (3, Go.Proofs.Ytpahnadbknjepaa.Ex.AV.ptr 0 0), (2, Go.Proofs.Ytpahnadbknjepaa.Ex.AV.bool Bool.false)]
            {
              blks :=
                [(0,
                    Go.Proofs.Ytpahnadbknjepaa.Ex.Blk.box
                      [Go.Proofs.Ytpahnadbknjepaa.Ex.AV.bool (Go.Proofs.Ytpahnadbknjepaa.Ex.rjoinE x d5).fst, Go.Proofs.Ytpahnadbknjepaa.Ex.AV.sl ((Go.Proofs.Ytpahnadbknjepaa.Ex.Ty.int Go.IntKind.i64).pair (Go.Proofs.Ytpahnadbknjepaa.Ex.Ty.int Go.IntKind.i64)).st (Go.Proofs.Ytpahnadbknjepaa.Ex.rjoinE x d5).snd.fst,
                        Go.Proofs.Ytpahnadbknjepaa.Ex.AV.sl ((Go.Proofs.Ytpahnadbknjepaa.Ex.Ty.int Go.IntKind.i64).pair (Go.Proofs.Ytpahnadbknjepaa.Ex.Ty.int Go.IntKind.i64)).st (Go.Proofs.Ytpahnadbknjepaa.Ex.rjoinE x d5).snd.snd.fst,
                        Go.Proofs.Ytpahnadbknjepaa.Ex.AV.sl ((Go.Proofs.Ytpahnadbknjepaa.Ex.Ty.int Go.IntKind.i64).pair (Go.Proofs.Ytpahnadbknjepaa.Ex.Ty.int Go.IntKind.i64)).st (Go.Proofs.Ytpahnadbknjepaa.Ex.rjoinE x d5).snd.snd.snd.fst,
                        Go.Proofs.Ytpahnadbknjepaa.Ex.AV.int Go.IntKind.i64 (Go.Proofs.Ytpahnadbknjepaa.Ex.rjoinE x d5).snd.snd.snd.snd.fst, Go.Proofs.Ytpahnadbknjepaa.Ex.AV.int Go.IntKind.i64 (Go.Proofs.Ytpahnadbknjepaa.Ex.rjoinE x d5).snd.snd.snd.snd.snd])],
              c := 1 }
        else Option.none
    else Option.none
  else
    K 2
      [(0,
          Go.Proofs.Ytpahnadbknjepaa.Ex.AV.sl
            (Go.Proofs.Ytpahnadbknjepaa.Ex.Ty.bool.pair
                (((Go.Proofs.Ytpahnadbknjepaa.Ex.Ty.int Go.IntKind.i64).pair (Go.Proofs.Ytpahnadbknjepaa.Ex.Ty.int Go.IntKind.i64)).st.sl.pair
                  (((Go.Proofs.Ytpahnadbknjepaa.Ex.Ty.int Go.IntKind.i64).pair (Go.Proofs.Ytpahnadbknjepaa.Ex.Ty.int Go.IntKind.i64)).st.sl.pair
                    (((Go.Proofs.Ytpahnadbknjepaa.Ex.Ty.int Go.IntKind.i64).pair (Go.Proofs.Ytpahnadbknjepaa.Ex.Ty.int Go.IntKind.i64)).st.sl.pair ((Go.Proofs.Ytpahnadbknjepaa.Ex.Ty.int Go.IntKind.i64).pair (Go.Proofs.Ytpahnadbknjepaa.Ex.Ty.int Go.IntKind.i64)))))).st
            l),
        (4, Go.Proofs.Ytpahnadbknjepaa.Ex.AV.int Go.IntKind.i64 i), (3, Go.Proofs.Ytpahnadbknjepaa.Ex.AV.ptr 0 0), (2, Go.Proofs.Ytpahnadbknjepaa.Ex.AV.bool Bool.false)]
      {
        blks :=
          [(0,
              Go.Proofs.Ytpahnadbknjepaa.Ex.Blk.box
                [Go.Proofs.Ytpahnadbknjepaa.Ex.AV.bool x.fst, Go.Proofs.Ytpahnadbknjepaa.Ex.AV.sl ((Go.Proofs.Ytpahnadbknjepaa.Ex.Ty.int Go.IntKind.i64).pair (Go.Proofs.Ytpahnadbknjepaa.Ex.Ty.int Go.IntKind.i64)).st x.snd.fst,
                  Go.Proofs.Ytpahnadbknjepaa.Ex.AV.sl ((Go.Proofs.Ytpahnadbknjepaa.Ex.Ty.int Go.IntKind.i64).pair (Go.Proofs.Ytpahnadbknjepaa.Ex.Ty.int Go.IntKind.i64)).st x.snd.snd.fst,
                  Go.Proofs.Ytpahnadbknjepaa.Ex.AV.sl ((Go.Proofs.Ytpahnadbknjepaa.Ex.Ty.int Go.IntKind.i64).pair (Go.Proofs.Ytpahnadbknjepaa.Ex.Ty.int Go.IntKind.i64)).st x.snd.snd.snd.fst, Go.Proofs.Ytpahnadbknjepaa.Ex.AV.int Go.IntKind.i64 x.snd.snd.snd.snd.fst,
                  Go.Proofs.Ytpahnadbknjepaa.Ex.AV.int Go.IntKind.i64 x.snd.snd.snd.snd.snd])],
        c := 1 } := by kernel_rfl
end Go.Proofs.Ytpahnadbknjepaa.Ex

/- Loops Q: what they come to. -/
namespace Go.Proofs.Ytpahnadbknjepaa.Ex
open Go.Proofs Go.Proofs.Ytpahnadbknjepaa
set_option maxRecDepth 100000
set_option linter.unusedVariables false
set_option linter.unusedSimpArgs false
def stepL3m   (x : E) (d : E) : E := rjoinE x d
def allL3m  (l0 : List E) : Bool := l0.all fun d => okRE d
def vL3m  (l : List E) (s : E) : E := l.foldl (fun s d => stepL3m   (s) d) s
theorem runL3m  (l : List E) (hl : l.length ≤ 4611686018427387904) (ha : allL3m  l = true) (s : E) (hI : okRE (s) = true) :
    go (iterM 0 keepL3m (FL3m 0) (l.length + 1) (TL3m l 0)) (HL3m (s)) = some ((((2, TL3m l (l.length : Nat)), HL3m ((vL3m  l s))) : Out3)) := by
  have key := range_loop (keep := keepL3m) (F := FL3m 0) (fun i s => okRE (s) = true) l (fun i s => TL3m l (i : Nat)) (fun i s => HL3m (s)) (fun _ s d => .inl (stepL3m   (s) d)) (fun s => (((2, TL3m l (l.length : Nat)), HL3m (s)) : Out3)) ?_ ?_ ?_ ?_ ?_ l 0 s rfl (Nat.zero_le _) hI
  · rw [runL_inl] at key
    exact key
  · intro i s d hi hd hm hI K
    have ha := List.all_eq_true.1 ha d hm
    rw [rnd3m]
    have e1 : decide ((i : Int) < ((l.length : Nat) : Int)) = true := decide_eq_true (by omega)
    have e2 : decide (0 ≤ (i : Int)) = true := decide_eq_true (by omega)
    rw [e1, e2, Int.toNat_natCast, wrap_up hi hl]
    rw [hd]; simp only [optC, cond_true]
    have hI : okRE s = true := hI
    obtain ⟨s1, s2, s3, s4, s5, s6⟩ := s
    rw [hI]; rfl
  · intro i s d s' hd hI e; cases e; exact okRE_rjoin hI (List.all_eq_true.1 ha d hd)
  · intro i s d x e; cases e
  · intro s K
    rw [rnd3m]
    have e1 : decide (((l.length : Nat) : Int) < ((l.length : Nat) : Int)) = false := decide_eq_false (by omega)
    rw [e1]
    rfl
  · intro s; exact nofun
def dT3m : Tm → Option (List E × Int)
  | [(0, .sl (.st (.pair .bool (.pair (.sl (.st (.pair (.int .i64) (.int .i64)))) (.pair (.sl (.st (.pair (.int .i64) (.int .i64)))) (.pair (.sl (.st (.pair (.int .i64) (.int .i64)))) (.pair (.int .i64) (.int .i64))))))) l), (4, .int .i64 i), (3, .ptr 0 0), (2, .bool false)] => some (l, i)
  | _ => none
def dH3m : Hp → Option (E)
  | ⟨[(0, .box [.bool x1, .sl (.st (.pair (.int .i64) (.int .i64))) x2, .sl (.st (.pair (.int .i64) (.int .i64))) x3, .sl (.st (.pair (.int .i64) (.int .i64))) x4, .int .i64 x5, .int .i64 x6])], 1⟩ => some (x1, x2, x3, x4, x5, x6)
  | _ => none
theorem dT3m_some {T : Tm} {t : List E × Int} (e : dT3m T = some t) : T = TL3m (t.1) (t.2) := by
  unfold dT3m at e
  split at e
  · cases e; rfl
  · cases e
theorem dH3m_some {h : Hp} {u : E} (e : dH3m h = some u) : h = HL3m (u) := by
  unfold dH3m at e
  split at e
  · cases e; rfl
  · cases e
def qL3m (base : Nat) (T : Tm) : Prog (Nat × Tm) := match base with
  | 0 => match dT3m T with
    | some t => loopA dH3m (fun u => ((t.2) == 0) && decide (((t.1).length : Int) ≤ 4611686018427387904) && allL3m  (t.1) && okRE (u)) fun u => (((2, TL3m (t.1) ((t.1).length : Nat)), HL3m ((vL3m  (t.1) (u)))) : Out3)
    | none => .fail
  | _ + 1 => .fail
theorem qgo3m (base : Nat) (T : Tm) (h : Hp) (r : Nat × Tm) (h' : Hp) (e : go (qL3m base T) h = some (r, h')) : ∃ m, go (iterM base keepL3m (FL3m base) m T) h = some (r, h') := by
  unfold qL3m at e
  split at e
  · split at e
    · rename_i t ht
      obtain ⟨u, hu, c, e2⟩ := loopA_go e
      rw [dT3m_some ht, dH3m_some hu]
      simp only [Bool.and_eq_true, beq_iff_eq, decide_eq_true_eq] at c
      obtain ⟨c, ci⟩ := c
      obtain ⟨c, ca⟩ := c
      obtain ⟨c1, c3⟩ := c
      refine ⟨(t.1).length + 1, ?_⟩
      rw [c1]
      rw [e2]
      have := runL3m  (t.1) (by omega) ca (u) ci
      exact this
    · cases e
  · cases e
noncomputable def lpL3m0 (base : Nat) (T : Tm) : Prog (Nat × Tm) := .norm base keepL3m T (qL3m base)
theorem sndL3m0 : SoundC Try.prog 60 (.loop (bodyX 3 0)) lpL3m0 :=
  loop_sound (cx := cxQ) (cal := evF cxQ keeps 3) (kp := keeps 3) (tabOk_of tab_ok) (cmpsOk_of tab_ok cmps_ok) calQ mixed (by intro q hq p hp; cases hp) qgo3m
noncomputable def lpL3m (base : Nat) (T : Tm) : Prog (Nat × Tm) := unP [(0, unEs)] [] keepL3m lpL3m0 base T
theorem sndL3m : SoundC Try.prog 60 (.loop (bodyX 3 0)) lpL3m := un_sound sndL3m0
end Go.Proofs.Ytpahnadbknjepaa.Ex

/- Contracts, level 22. -/
namespace Go.Proofs.Ytpahnadbknjepaa.Ex
open Go.Proofs Go.Proofs.Ytpahnadbknjepaa
set_option maxRecDepth 100000
set_option linter.unusedSimpArgs false
set_option linter.unusedVariables false
def sp22 : Nat → Option (List AV → Prog AV)
  | 46 => some (specP true M46)
  | 55 => some (specP true M55)
  | 45 => some (specP true M45)
  | 37 => some (specP true M37)
  | 38 => some (specP true M38)
  | 31 => some (specP true M31)
  | 36 => some (specP true M36)
  | 43 => some (specP true M43)
  | 44 => some (specP true M44)
  | 50 => some (specP true M50)
  | 54 => some (specP true M54)
  | 20 => some (specP true M20)
  | 39 => some (specP true M39)
  | 26 => some (specP true M26)
  | 52 => some (specP true M52)
  | 51 => some (specP true M51)
  | 40 => some (specP true M40)
  | 29 => some (specP true M29)
  | 42 => some (specP true M42w)
  | 21 => some (specP true M21)
  | 24 => some (specP true M24w)
  | 9 => some (specP true M9)
  | 41 => some (cloneP 16 tI)
  | 23 => some (specP true M23)
  | 11 => some (pickS isNil1 (specP true M11N) (specP true M11L))
  | 33 => some (specP true M33)
  | 53 => some (specP true M53)
  | 34 => some (specP true M34)
  | 16 => some (specP true M16)
  | 17 => some (specP true M17)
  | 28 => some (specP true M28)
  | 35 => some (specP true M35)
  | 30 => some (specP true M30)
  | 22 => some (specP true M22)
  | 15 => some (specP true M15)
  | 8 => some (specP true M8)
  | 13 => some (specP true M13)
  | 14 => some (specP true M14)
  | 10 => some (specP true M10)
  | 12 => some (specP true M12)
  | 19 => some (specP true M19)
  | 18 => some (specP true M18)
  | _ => none
noncomputable def lp22 : Nat → Nat → Option (Nat → Tm → Prog (Nat × Tm))
  | 3, 0 => some lpL3m
  | _, _ => none
noncomputable def cx22 : Ctx := { tab := tab, spec := sp22, inl := inl, lps := lp22, fuel := 15 }
theorem hsp22 : ∀ g p, cx22.spec g = some p → SoundA Try.prog g p := by
  intro g p h
  change sp22 g = some p at h
  unfold sp22 at h
  split at h
  · cases h; exact snd46
  · cases h; exact snd55
  · cases h; exact snd45
  · cases h; exact snd37
  · cases h; exact snd38
  · cases h; exact snd31
  · cases h; exact snd36
  · cases h; exact snd43
  · cases h; exact snd44
  · cases h; exact snd50
  · cases h; exact snd54
  · cases h; exact snd20
  · cases h; exact snd39
  · cases h; exact snd26
  · cases h; exact snd52
  · cases h; exact snd51
  · cases h; exact snd40
  · cases h; exact snd29
  · cases h; exact snd42w
  · cases h; exact snd21
  · cases h; exact snd24w
  · cases h; exact snd9
  · cases h; exact sndClone
  · cases h; exact snd23
  · cases h; exact (SoundA.pick isNil1 snd11 snd11L)
  · cases h; exact snd33
  · cases h; exact snd53
  · cases h; exact snd34w
  · cases h; exact snd16
  · cases h; exact snd17
  · cases h; exact snd28
  · cases h; exact snd35
  · cases h; exact snd30
  · cases h; exact snd22
  · cases h; exact snd15
  · cases h; exact snd8
  · cases h; exact snd13
  · cases h; exact snd14
  · cases h; exact snd10
  · cases h; exact snd12
  · cases h; exact snd19
  · cases h; exact snd18
  · cases h
theorem in22 : InlOk Try.prog cx22 := ⟨inl_ok, fun g fn c hg hb q hq p hp => by
  change lp22 g q.1 = some p at hp
  change inl g = some fn at hg
  generalize hq1 : q.1 = b at hp
  unfold lp22 at hp
  split at hp
  · cases hp; exact lps_case (inl := inl) hg hb hq hq1 (by kernel_rfl) (by kernel_rfl) sndL3m
  · cases hp⟩
theorem cal22 (g : Nat) : SoundA Try.prog g (evF cx22 keeps 3 g) := evF_sound (tabOk_of tab_ok) (cmpsOk_of tab_ok cmps_ok) mixed in22 hsp22 keeps 3 g
end Go.Proofs.Ytpahnadbknjepaa.Ex

/- What is run, level 22. -/
namespace Go.Proofs.Ytpahnadbknjepaa.Ex
open Go.Proofs Go.Proofs.Ytpahnadbknjepaa
set_option maxRecDepth 100000
end Go.Proofs.Ytpahnadbknjepaa.Ex

/- Contracts, level 22. -/
namespace Go.Proofs.Ytpahnadbknjepaa.Ex
open Go.Proofs Go.Proofs.Ytpahnadbknjepaa
set_option maxRecDepth 100000
set_option linter.unusedSimpArgs false
set_option linter.unusedVariables false
end Go.Proofs.Ytpahnadbknjepaa.Ex

/- Contracts, level 24. -/
namespace Go.Proofs.Ytpahnadbknjepaa.Ex
open Go.Proofs Go.Proofs.Ytpahnadbknjepaa
set_option maxRecDepth 100000
set_option linter.unusedSimpArgs false
set_option linter.unusedVariables false
def lpFail (base : Nat) (T : Tm) : Prog (Nat × Tm) := .fail
theorem sndFail : SoundC Try.prog 60 (.loop (bodyX 3 0)) lpFail := fun tr ok hdr0 S0 h0 w0 a0 h T hdr S a w f e T' h' f' Q _ _ ev _ _ => (ex_fail ev).elim
def sp24 : Nat → Option (List AV → Prog AV)
  | 46 => some (specP true M46)
  | 55 => some (specP true M55)
  | 45 => some (specP true M45)
  | 37 => some (specP true M37)
  | 38 => some (specP true M38)
  | 31 => some (specP true M31)
  | 36 => some (specP true M36)
  | 43 => some (specP true M43)
  | 44 => some (specP true M44)
  | 50 => some (specP true M50)
  | 54 => some (specP true M54)
  | 20 => some (specP true M20)
  | 39 => some (specP true M39)
  | 26 => some (specP true M26)
  | 52 => some (specP true M52)
  | 51 => some (specP true M51)
  | 40 => some (specP true M40)
  | 29 => some (specP true M29)
  | 42 => some (specP true M42w)
  | 21 => some (specP true M21)
  | 24 => some (specP true M24w)
  | 9 => some (specP true M9)
  | 41 => some (cloneP 16 tI)
  | 23 => some (specP true M23)
  | 11 => some (pickS isNil1 (specP true M11N) (specP true M11L))
  | 33 => some (specP true M33)
  | 53 => some (specP true M53)
  | 34 => some (specP true M34)
  | 16 => some (specP true M16)
  | 17 => some (specP true M17)
  | 28 => some (specP true M28)
  | 35 => some (specP true M35)
  | 30 => some (specP true M30)
  | 22 => some (specP true M22)
  | 15 => some (specP true M15)
  | 8 => some (specP true M8)
  | 13 => some (specP true M13)
  | 14 => some (specP true M14)
  | 10 => some (specP true M10)
  | 12 => some (specP true M12)
  | 19 => some (specP true M19)
  | 18 => some (specP true M18)
  | _ => none
noncomputable def lp24 : Nat → Nat → Option (Nat → Tm → Prog (Nat × Tm))
  | 3, 0 => some lpFail
  | _, _ => none
noncomputable def cx24 : Ctx := { tab := tab, spec := sp24, inl := inl, lps := lp24, fuel := 10 }
theorem hsp24 : ∀ g p, cx24.spec g = some p → SoundA Try.prog g p := by
  intro g p h
  change sp24 g = some p at h
  unfold sp24 at h
  split at h
  · cases h; exact snd46
  · cases h; exact snd55
  · cases h; exact snd45
  · cases h; exact snd37
  · cases h; exact snd38
  · cases h; exact snd31
  · cases h; exact snd36
  · cases h; exact snd43
  · cases h; exact snd44
  · cases h; exact snd50
  · cases h; exact snd54
  · cases h; exact snd20
  · cases h; exact snd39
  · cases h; exact snd26
  · cases h; exact snd52
  · cases h; exact snd51
  · cases h; exact snd40
  · cases h; exact snd29
  · cases h; exact snd42w
  · cases h; exact snd21
  · cases h; exact snd24w
  · cases h; exact snd9
  · cases h; exact sndClone
  · cases h; exact snd23
  · cases h; exact (SoundA.pick isNil1 snd11 snd11L)
  · cases h; exact snd33
  · cases h; exact snd53
  · cases h; exact snd34w
  · cases h; exact snd16
  · cases h; exact snd17
  · cases h; exact snd28
  · cases h; exact snd35
  · cases h; exact snd30
  · cases h; exact snd22
  · cases h; exact snd15
  · cases h; exact snd8
  · cases h; exact snd13
  · cases h; exact snd14
  · cases h; exact snd10
  · cases h; exact snd12
  · cases h; exact snd19
  · cases h; exact snd18
  · cases h
theorem in24 : InlOk Try.prog cx24 := ⟨inl_ok, fun g fn c hg hb q hq p hp => by
  change lp24 g q.1 = some p at hp
  change inl g = some fn at hg
  generalize hq1 : q.1 = b at hp
  unfold lp24 at hp
  split at hp
  · cases hp; exact lps_case (inl := inl) hg hb hq hq1 (by kernel_rfl) (by kernel_rfl) sndFail
  · cases hp⟩
theorem cal24 (g : Nat) : SoundA Try.prog g (evF cx24 keeps 3 g) := evF_sound (tabOk_of tab_ok) (cmpsOk_of tab_ok cmps_ok) mixed in24 hsp24 keeps 3 g
end Go.Proofs.Ytpahnadbknjepaa.Ex

/- EnvMany, in plain Lean. -/
namespace Go.Proofs.Ytpahnadbknjepaa.Ex
open Go.Proofs Go.Proofs.Ytpahnadbknjepaa
set_option maxRecDepth 100000
set_option linter.unusedVariables false
set_option linter.unusedSimpArgs false
def T3 (l back : List E) : Option (AV × Hp) :=
  bif Go.Proofs.Ytpahnadbknjepaa.Ex.okLE l then
    bif !Go.Proofs.Ytpahnadbknjepaa.Ex.fitsB l then Option.some (Go.Proofs.Ytpahnadbknjepaa.Ex.AV.bool Bool.true, { blks := [], c := 0 })
    else
      bif 0 == 0 && Decidable.decide ((↑l.length : Int) ≤ 4611686018427387904) && Go.Proofs.Ytpahnadbknjepaa.Ex.allL3m l && Go.Proofs.Ytpahnadbknjepaa.Ex.okRE (Bool.false, [], [], [], 0, 0) then
        bif Go.Proofs.Ytpahnadbknjepaa.Ex.okJ l then
          bif Go.Proofs.Ytpahnadbknjepaa.Ex.okE (Go.Proofs.Ytpahnadbknjepaa.Ex.joinL l) then
            bif Go.Proofs.Ytpahnadbknjepaa.Ex.sameE (Go.Proofs.Ytpahnadbknjepaa.Ex.joinL l) (Go.Proofs.Ytpahnadbknjepaa.Ex.vL3m l (Bool.false, [], [], [], 0, 0)) then
              bif Go.Proofs.Ytpahnadbknjepaa.Ex.okJ back then
                bif Go.Proofs.Ytpahnadbknjepaa.Ex.okE (Go.Proofs.Ytpahnadbknjepaa.Ex.joinL back) then
                  bif Go.Proofs.Ytpahnadbknjepaa.Ex.sameE (Go.Proofs.Ytpahnadbknjepaa.Ex.joinL back) (Go.Proofs.Ytpahnadbknjepaa.Ex.vL3m l (Bool.false, [], [], [], 0, 0)) then Option.some (Go.Proofs.Ytpahnadbknjepaa.Ex.AV.bool Bool.true, { blks := [], c := 0 })
                  else Option.some (Go.Proofs.Ytpahnadbknjepaa.Ex.AV.bool Bool.false, { blks := [], c := 0 })
                else Option.none
              else Option.none
            else Option.some (Go.Proofs.Ytpahnadbknjepaa.Ex.AV.bool Bool.false, { blks := [], c := 0 })
          else Option.none
        else Option.none
      else Option.none
  else Option.none
theorem raw3n1 (e0 : E) : ev cx22 3 [.sl tE [e0]] = T3 [e0] [e0] := by kernel_rfl
theorem raw3n2 (e0 e1 : E) : ev cx22 3 [.sl tE [e0, e1]] = T3 [e0, e1] ([e1] ++ [e0]) := by kernel_rfl
theorem raw3n3 (e0 e1 e2 : E) : ev cx22 3 [.sl tE [e0, e1, e2]] = T3 [e0, e1, e2] (([e2] ++ [e1]) ++ [e0]) := by kernel_rfl
theorem raw3n4 (e0 e1 e2 e3 : E) : ev cx22 3 [.sl tE [e0, e1, e2, e3]] = T3 [e0, e1, e2, e3] ((([e3] ++ [e2]) ++ [e1]) ++ [e0]) := by kernel_rfl
theorem raw3n5 (e0 e1 e2 e3 e4 : E) : ev cx22 3 [.sl tE [e0, e1, e2, e3, e4]] = T3 [e0, e1, e2, e3, e4] (((([e4] ++ [e3]) ++ [e2]) ++ [e1]) ++ [e0]) := by kernel_rfl
theorem raw3n6 (e0 e1 e2 e3 e4 e5 : E) : ev cx22 3 [.sl tE [e0, e1, e2, e3, e4, e5]] = T3 [e0, e1, e2, e3, e4, e5] ((((([e5] ++ [e4]) ++ [e3]) ++ [e2]) ++ [e1]) ++ [e0]) := by kernel_rfl
theorem raw3n7 (e0 e1 e2 e3 e4 e5 e6 : E) : ev cx22 3 [.sl tE [e0, e1, e2, e3, e4, e5, e6]] = T3 [e0, e1, e2, e3, e4, e5, e6] (((((([e6] ++ [e5]) ++ [e4]) ++ [e3]) ++ [e2]) ++ [e1]) ++ [e0]) := by kernel_rfl
theorem raw3n8 (e0 e1 e2 e3 e4 e5 e6 e7 : E) : ev cx22 3 [.sl tE [e0, e1, e2, e3, e4, e5, e6, e7]] = T3 [e0, e1, e2, e3, e4, e5, e6, e7] ((((((([e7] ++ [e6]) ++ [e5]) ++ [e4]) ++ [e3]) ++ [e2]) ++ [e1]) ++ [e0]) := by kernel_rfl
theorem raw3n9 (e0 e1 e2 e3 e4 e5 e6 e7 e8 : E) : ev cx22 3 [.sl tE [e0, e1, e2, e3, e4, e5, e6, e7, e8]] = T3 [e0, e1, e2, e3, e4, e5, e6, e7, e8] (((((((([e8] ++ [e7]) ++ [e6]) ++ [e5]) ++ [e4]) ++ [e3]) ++ [e2]) ++ [e1]) ++ [e0]) := by kernel_rfl
theorem raw3n10 (e0 e1 e2 e3 e4 e5 e6 e7 e8 e9 : E) : ev cx22 3 [.sl tE [e0, e1, e2, e3, e4, e5, e6, e7, e8, e9]] = T3 [e0, e1, e2, e3, e4, e5, e6, e7, e8, e9] ((((((((([e9] ++ [e8]) ++ [e7]) ++ [e6]) ++ [e5]) ++ [e4]) ++ [e3]) ++ [e2]) ++ [e1]) ++ [e0]) := by kernel_rfl
theorem raw3n11 (e0 e1 e2 e3 e4 e5 e6 e7 e8 e9 e10 : E) : ev cx22 3 [.sl tE [e0, e1, e2, e3, e4, e5, e6, e7, e8, e9, e10]] = T3 [e0, e1, e2, e3, e4, e5, e6, e7, e8, e9, e10] (((((((((([e10] ++ [e9]) ++ [e8]) ++ [e7]) ++ [e6]) ++ [e5]) ++ [e4]) ++ [e3]) ++ [e2]) ++ [e1]) ++ [e0]) := by kernel_rfl
theorem raw3n12 (e0 e1 e2 e3 e4 e5 e6 e7 e8 e9 e10 e11 : E) : ev cx22 3 [.sl tE [e0, e1, e2, e3, e4, e5, e6, e7, e8, e9, e10, e11]] = T3 [e0, e1, e2, e3, e4, e5, e6, e7, e8, e9, e10, e11] ((((((((((([e11] ++ [e10]) ++ [e9]) ++ [e8]) ++ [e7]) ++ [e6]) ++ [e5]) ++ [e4]) ++ [e3]) ++ [e2]) ++ [e1]) ++ [e0]) := by kernel_rfl
theorem raw3g (l : List E) : ev cx24 3 [aLE l] =
  bif Decidable.decide ((↑l.length : Int) > 12) then Option.some (Go.Proofs.Ytpahnadbknjepaa.Ex.AV.bool Bool.true, { blks := [], c := 0 })
  else
    bif (↑l.length : Int) == 0 then Option.some (Go.Proofs.Ytpahnadbknjepaa.Ex.AV.bool Bool.true, { blks := [], c := 0 })
    else bif Go.Proofs.Ytpahnadbknjepaa.Ex.okLE l then bif !Go.Proofs.Ytpahnadbknjepaa.Ex.fitsB l then Option.some (Go.Proofs.Ytpahnadbknjepaa.Ex.AV.bool Bool.true, { blks := [], c := 0 }) else Option.none else Option.none := by kernel_rfl
theorem raw3z : ev cx22 3 [.sl tE []] = outV (.bool true) := by kernel_rfl
def gt12 : List AV → Bool
  | [.sl _ l] => decide (l.length > 12)
  | _ => false
noncomputable def q3f (g : Nat) : List AV → Prog AV := pickS gt12 (evF cx24 keeps 3 3) (evF cx22 keeps 3 3)
theorem sndq3 (g : Nat) : SoundA Try.prog 3 (q3f g) := SoundA.pick gt12 (cal24 3) (cal22 3)
def zz3 : E := (false, [], [], [], 0, 0)
def gd3 (f x : E) : Prop := bitsOk x ∧ goodE f x
def gq (f x : E) : Prop := x = zz3 ∨ (x.1 = true ∧ goodE f x)
theorem iJoin_comm {a b : I} (ha : isB a = true) (hb : isB b = true) : iJoin a b = iJoin b a := by
  cases ea : empB a with
  | true =>
    have := isB_nn ha ea; subst this
    cases eb : empB b with
    | true => have := isB_nn hb eb; subst this; rfl
    | false => unfold iJoin; rw [ea, eb]; rfl
  | false =>
    cases eb : empB b with
    | true => unfold iJoin; rw [ea, eb]; rfl
    | false =>
      unfold iJoin mn mx; rw [ea, eb]
      simp only [Bool.false_eq_true, if_false]
      refine Prod.ext ?_ ?_ <;> simp only <;> (repeat' split) <;> omega
theorem iJoin_ne {a b : I} (ea : empB a = false) (eb : empB b = false) : iJoin a b = (mn a.1 b.1, mx a.2 b.2) := by unfold iJoin; rw [ea, eb]; rfl
theorem iJoin_nl {b : I} (hb : isB b = true) : iJoin nn b = b := by
  cases eb : empB b with
  | true => have := isB_nn hb eb; subst this; rfl
  | false => unfold iJoin; rw [eb]; rfl
theorem iJoin_nr {b : I} (hb : isB b = true) : iJoin b nn = b := by
  cases eb : empB b with
  | true => have := isB_nn hb eb; subst this; rfl
  | false => unfold iJoin; rw [eb]; rfl
theorem iJoin_rc {a b c : I} (ha : isB a = true) (hb : isB b = true) (hc : isB c = true) : iJoin (iJoin a b) c = iJoin (iJoin a c) b := by
  cases ea : empB a with
  | true => have := isB_nn ha ea; subst this; rw [iJoin_nl hb, iJoin_nl hc]; exact iJoin_comm hb hc
  | false =>
    cases eb : empB b with
    | true => have := isB_nn hb eb; subst this; rw [iJoin_nr ha, iJoin_nr (join_is ha hc)]
    | false =>
      cases ec : empB c with
      | true => have := isB_nn hc ec; subst this; rw [iJoin_nr ha, iJoin_nr (join_is ha hb)]
      | false =>
        have la := le_of_emp ea; have lb := le_of_emp eb; have lc := le_of_emp ec
        rw [iJoin_ne ea eb, iJoin_ne ea ec]
        have e1 : empB (mn a.1 b.1, mx a.2 b.2) = false := by unfold empB mn mx; simp only [decide_eq_false_iff_not]; (repeat' split) <;> omega
        have e2 : empB (mn a.1 c.1, mx a.2 c.2) = false := by unfold empB mn mx; simp only [decide_eq_false_iff_not]; (repeat' split) <;> omega
        rw [iJoin_ne e1 ec, iJoin_ne e2 eb]
        unfold mn mx
        refine Prod.ext ?_ ?_ <;> simp only <;> (repeat' split) <;> omega
theorem joinR_comm {a b : List I} (hl : a.length = b.length) (ha : allB a) (hb : allB b) : joinR a b = joinR b a := by
  rw [joinR_eq, joinR_eq]
  apply List.ext_getElem?
  intro k
  rw [get_mapIx, get_mapIx]
  by_cases hk : k < a.length
  · have hx : a[k]? = some a[k] := List.getElem?_eq_getElem hk
    have hy : b[k]? = some (b[k]'(by omega)) := List.getElem?_eq_getElem _
    rw [hx, hy]
    simp only [Option.map_some, Nat.zero_add]
    rw [atV_some hx, atV_some hy, iJoin_comm (ha _ (List.getElem_mem _)) (hb _ (List.getElem_mem _))]
  · rw [List.getElem?_eq_none (by omega), List.getElem?_eq_none (by omega)]; rfl
theorem joinR_rc {o a b : List I} (h1 : o.length = a.length) (h2 : o.length = b.length) (ho : allB o) (ha : allB a) (hb : allB b) : joinR (joinR o a) b = joinR (joinR o b) a := by
  rw [joinR_eq, joinR_eq, joinR_eq, joinR_eq]
  apply List.ext_getElem?
  intro k
  rw [get_mapIx, get_mapIx, get_mapIx, get_mapIx]
  by_cases hk : k < o.length
  · have hz : o[k]? = some o[k] := List.getElem?_eq_getElem hk
    have hx : a[k]? = some (a[k]'(by omega)) := List.getElem?_eq_getElem _
    have hy : b[k]? = some (b[k]'(by omega)) := List.getElem?_eq_getElem _
    rw [hz]
    simp only [Option.map_some, Nat.zero_add]
    rw [atV_some hx, atV_some hy, iJoin_rc (ho _ (List.getElem_mem _)) (ha _ (List.getElem_mem _)) (hb _ (List.getElem_mem _))]
  · rw [List.getElem?_eq_none (by omega)]; rfl
theorem andV_comm (a b : Int) : andV a b = andV b a := by
  show IntKind.i64.wrap ((BitVec.ofInt 64 a &&& BitVec.ofInt 64 b).toNat : Int) = IntKind.i64.wrap ((BitVec.ofInt 64 b &&& BitVec.ofInt 64 a).toNat : Int)
  rw [BitVec.and_comm]
theorem orV_comm (a b : Int) : orV a b = orV b a := by
  show IntKind.i64.wrap ((BitVec.ofInt 64 a ||| BitVec.ofInt 64 b).toNat : Int) = IntKind.i64.wrap ((BitVec.ofInt 64 b ||| BitVec.ofInt 64 a).toNat : Int)
  rw [BitVec.or_comm]
theorem andV_rc (a b c : Int) : andV (andV a b) c = andV (andV a c) b := by
  show IntKind.i64.wrap ((BitVec.ofInt 64 (andV a b) &&& BitVec.ofInt 64 c).toNat : Int) = IntKind.i64.wrap ((BitVec.ofInt 64 (andV a c) &&& BitVec.ofInt 64 b).toNat : Int)
  rw [and_bits, and_bits, BitVec.and_assoc, BitVec.and_assoc, BitVec.and_comm (BitVec.ofInt 64 b)]
theorem orV_rc (a b c : Int) : orV (orV a b) c = orV (orV a c) b := by
  show IntKind.i64.wrap ((BitVec.ofInt 64 (orV a b) ||| BitVec.ofInt 64 c).toNat : Int) = IntKind.i64.wrap ((BitVec.ofInt 64 (orV a c) ||| BitVec.ofInt 64 b).toNat : Int)
  rw [or_bits, or_bits, BitVec.or_assoc, BitVec.or_assoc, BitVec.or_comm (BitVec.ofInt 64 b)]
theorem merge_comm {f a b : E} (ga : goodE f a) (gb : goodE f b) : mergeE a b = mergeE b a := by
  unfold mergeE
  rw [joinR_comm (ga.1.trans gb.1.symm) ga.2.2.2.1 gb.2.2.2.1, joinR_comm (ga.2.1.trans gb.2.1.symm) ga.2.2.2.2.1 gb.2.2.2.2.1, joinR_comm (ga.2.2.1.trans gb.2.2.1.symm) ga.2.2.2.2.2 gb.2.2.2.2.2, andV_comm, orV_comm]
theorem merge_rc {f o a b : E} (go : goodE f o) (ga : goodE f a) (gb : goodE f b) : mergeE (mergeE o a) b = mergeE (mergeE o b) a := by
  unfold mergeE
  simp only
  rw [joinR_rc (go.1.trans ga.1.symm) (go.1.trans gb.1.symm) go.2.2.2.1 ga.2.2.2.1 gb.2.2.2.1, joinR_rc (go.2.1.trans ga.2.1.symm) (go.2.1.trans gb.2.1.symm) go.2.2.2.2.1 ga.2.2.2.2.1 gb.2.2.2.2.1,
    joinR_rc (go.2.2.1.trans ga.2.2.1.symm) (go.2.2.1.trans gb.2.2.1.symm) go.2.2.2.2.2 ga.2.2.2.2.2 gb.2.2.2.2.2, andV_rc, orV_rc]
theorem join_gq {f o d : E} (ho : gq f o) (hd : goodE f d) : gq f (joinE o d) := by
  unfold joinE
  cases ed : d.1 with
  | false => exact ho
  | true =>
    rcases ho with rfl | ⟨eo, go⟩
    · exact .inr ⟨ed, hd⟩
    · rw [eo]; exact .inr ⟨rfl, merge_good go hd⟩
theorem join_rc {f o x y : E} (ho : gq f o) (hx : goodE f x) (hy : goodE f y) : joinE (joinE o x) y = joinE (joinE o y) x := by
  cases ex : x.1 with
  | false => have e : ∀ z, joinE z x = z := fun z => by unfold joinE; rw [ex]; rfl
             rw [e, e]
  | true =>
    cases ey : y.1 with
    | false => have e : ∀ z, joinE z y = z := fun z => by unfold joinE; rw [ey]; rfl
               rw [e, e]
    | true =>
      have jx : ∀ z : E, z.1 = true → joinE z x = mergeE z x := fun z h => by unfold joinE; rw [ex, h]; rfl
      have jy : ∀ z : E, z.1 = true → joinE z y = mergeE z y := fun z h => by unfold joinE; rw [ey, h]; rfl
      rcases ho with rfl | ⟨eo, go⟩
      · have e1 : joinE zz3 x = x := by unfold joinE; rw [ex]; rfl
        have e2 : joinE zz3 y = y := by unfold joinE; rw [ey]; rfl
        rw [e1, e2, jy x ex, jx y ey, merge_comm hx hy]
      · rw [jx o eo, jy o eo, jy _ rfl, jx _ rfl, merge_rc go hx hy]
theorem fold_gq {f : E} : ∀ (l : List E) (o : E), gq f o → (∀ d ∈ l, goodE f d) → gq f (l.foldl joinE o)
  | [], o, h, _ => h
  | d :: r, o, h, hl => fold_gq r _ (join_gq h (hl d List.mem_cons_self)) fun d h => hl d (List.mem_cons_of_mem _ h)
theorem fold_mv {f x : E} (hx : goodE f x) : ∀ (l : List E) (o : E), gq f o → (∀ d ∈ l, goodE f d) → l.foldl joinE (joinE o x) = joinE (l.foldl joinE o) x
  | [], o, _, _ => rfl
  | d :: r, o, ho, hl => by
    have hd := hl d List.mem_cons_self
    rw [List.foldl_cons, List.foldl_cons, join_rc ho hx hd]
    exact fold_mv hx r _ (join_gq ho hd) fun d h => hl d (List.mem_cons_of_mem _ h)
theorem fold_rev {f : E} : ∀ (l : List E) (o : E), gq f o → (∀ d ∈ l, goodE f d) → l.reverse.foldl joinE o = l.foldl joinE o
  | [], o, _, _ => rfl
  | d :: r, o, ho, hl => by
    have hd := hl d List.mem_cons_self
    have hr : ∀ d ∈ r, goodE f d := fun d h => hl d (List.mem_cons_of_mem _ h)
    rw [List.reverse_cons, List.foldl_append, List.foldl_cons, List.foldl_nil, fold_rev r o ho hr, List.foldl_cons]
    exact (fold_mv hd r o ho hr).symm
theorem joinR_r3 {a b : List I} (hl : a.length = b.length) (hb : allB b) : joinR a b = rjoinR a b := by
  rw [joinR_eq, rjoinR_eq]
  apply List.ext_getElem?
  intro k
  rw [get_mapIx, get_mapIx]
  cases hd : a[k]? with
  | none => rfl
  | some d => simp only [Option.map_some]; rw [join_eq (at_is hb (by have := (List.getElem?_eq_some_iff.1 hd).1; omega))]
theorem merge_r3 {f a b : E} (ga : goodE f a) (gb : goodE f b) : mergeE a b = rmergeE a b := by
  unfold mergeE rmergeE
  rw [joinR_r3 (ga.1.trans gb.1.symm) gb.2.2.2.1, joinR_r3 (ga.2.1.trans gb.2.1.symm) gb.2.2.2.2.1, joinR_r3 (ga.2.2.1.trans gb.2.2.1.symm) gb.2.2.2.2.2]
theorem rjoin_join {f o d : E} (ho : gq f o) (hd : goodE f d) : rjoinE o d = joinE o d := by
  unfold rjoinE joinE
  cases ed : d.1 with
  | false =>
    rcases ho with rfl | ⟨eo, _⟩
    · rfl
    · rw [eo]; rfl
  | true =>
    rcases ho with rfl | ⟨eo, go⟩
    · rfl
    · rw [eo]; exact (merge_r3 go hd).symm
theorem rfold {f : E} : ∀ (l : List E) (o : E), gq f o → (∀ d ∈ l, goodE f d) → l.foldl rjoinE o = l.foldl joinE o
  | [], o, _, _ => rfl
  | d :: r, o, ho, hl => by
    have hd := hl d List.mem_cons_self
    rw [List.foldl_cons, List.foldl_cons, rjoin_join ho hd]
    exact rfold r _ (join_gq ho hd) fun d h => hl d (List.mem_cons_of_mem _ h)
theorem sameE_self3 (a : E) : sameE a a = true := by
  unfold sameE
  rw [eqRows_self, eqRows_self, eqRows_self]
  cases a.1 <;> simp
theorem main3 (l back : List E) (hlen : l.length ≤ 12) (hl : ∀ e ∈ l, lenE e = true) (hb : back = l.reverse) : T3 l back = outV (.bool true) := by
  unfold T3
  have hn : decide ((l.length : Int) ≤ 4611686018427387904) = true := decide_eq_true (by omega)
  have o0 : okLE l = true := by
    unfold okLE
    rw [Bool.and_eq_true]
    exact ⟨hn, List.all_eq_true.2 hl⟩
  rw [o0]
  cases hf : fitsB l with
  | false => rfl
  | true =>
  generalize hff : (l[0]?).getD zE = f
  have hfit : ∀ d ∈ l, fitE f d = true := by
    unfold fitsB at hf
    rw [hff] at hf
    exact List.all_eq_true.1 hf
  have hg : ∀ d ∈ l, goodE f d := fun d hd => fit_good (hfit d hd)
  have hre : ∀ d ∈ l, okRE d = true := fun d hd => okRE_of (good_lens (hfit d hd))
  have ha : allL3m l = true := List.all_eq_true.2 hre
  have hzz : gq f zz3 := .inl rfl
  have hbg : ∀ d ∈ back, goodE f d := fun d hd => hg d (by rw [hb] at hd; exact List.mem_reverse.1 hd)
  have hbre : ∀ d ∈ back, okRE d = true := fun d hd => hre d (by rw [hb] at hd; exact List.mem_reverse.1 hd)
  have hbn : decide ((back.length : Int) ≤ 4611686018427387904) = true := decide_eq_true (by rw [hb, List.length_reverse]; omega)
  have j1 : okJ l = true := by unfold okJ; rw [hn]; exact List.all_eq_true.2 hre
  have j2 : okJ back = true := by unfold okJ; rw [hbn]; exact List.all_eq_true.2 hbre
  have e1 : vL3m l (false, [], [], [], 0, 0) = joinL l := rfold l zz3 hzz hg
  have e2 : joinL back = joinL l := by rw [hb]; exact fold_rev l zz3 hzz hg
  have z0 : okRE (false, [], [], [], 0, 0) = true := rfl
  have hok : okE (joinL l) = true := by
    have hq : gq f (joinL l) := fold_gq l zz3 hzz hg
    rcases hq with h | ⟨_, g1, g2, g3, _⟩
    · rw [h]; exact okE_of (by decide)
    · cases l with
      | nil => exact okE_of (by decide)
      | cons d r =>
        have hd := hg d List.mem_cons_self
        have hd2 := good_lens (hfit d List.mem_cons_self)
        have k1 := hd.1; have k2 := hd.2.1; have k3 := hd.2.2.1
        exact okE_of (by omega)
  rw [ha, hn, j1, j2, e1, e2, z0, hok, sameE_self3]
  simp only [beq_self_eq_true, Bool.and_self, cond_true, Bool.not_true, cond_false]
  rfl
theorem key3 (l : List E) (hl : ∀ e ∈ l, lenE e = true) (h : ¬ l.length > 12) : ev cx22 3 [.sl tE l] = outV (.bool true) := by
  rcases l with _ | ⟨e0, l⟩
  · exact raw3z
  rcases l with _ | ⟨e1, l⟩
  · exact (raw3n1 e0).trans (main3 [e0] [e0] (by simp only [List.length_cons, List.length_nil]; omega) hl (by simp))
  rcases l with _ | ⟨e2, l⟩
  · exact (raw3n2 e0 e1).trans (main3 [e0, e1] ([e1] ++ [e0]) (by simp only [List.length_cons, List.length_nil]; omega) hl (by simp))
  rcases l with _ | ⟨e3, l⟩
  · exact (raw3n3 e0 e1 e2).trans (main3 [e0, e1, e2] (([e2] ++ [e1]) ++ [e0]) (by simp only [List.length_cons, List.length_nil]; omega) hl (by simp))
  rcases l with _ | ⟨e4, l⟩
  · exact (raw3n4 e0 e1 e2 e3).trans (main3 [e0, e1, e2, e3] ((([e3] ++ [e2]) ++ [e1]) ++ [e0]) (by simp only [List.length_cons, List.length_nil]; omega) hl (by simp))
  rcases l with _ | ⟨e5, l⟩
  · exact (raw3n5 e0 e1 e2 e3 e4).trans (main3 [e0, e1, e2, e3, e4] (((([e4] ++ [e3]) ++ [e2]) ++ [e1]) ++ [e0]) (by simp only [List.length_cons, List.length_nil]; omega) hl (by simp))
  rcases l with _ | ⟨e6, l⟩
  · exact (raw3n6 e0 e1 e2 e3 e4 e5).trans (main3 [e0, e1, e2, e3, e4, e5] ((((([e5] ++ [e4]) ++ [e3]) ++ [e2]) ++ [e1]) ++ [e0]) (by simp only [List.length_cons, List.length_nil]; omega) hl (by simp))
  rcases l with _ | ⟨e7, l⟩
  · exact (raw3n7 e0 e1 e2 e3 e4 e5 e6).trans (main3 [e0, e1, e2, e3, e4, e5, e6] (((((([e6] ++ [e5]) ++ [e4]) ++ [e3]) ++ [e2]) ++ [e1]) ++ [e0]) (by simp only [List.length_cons, List.length_nil]; omega) hl (by simp))
  rcases l with _ | ⟨e8, l⟩
  · exact (raw3n8 e0 e1 e2 e3 e4 e5 e6 e7).trans (main3 [e0, e1, e2, e3, e4, e5, e6, e7] ((((((([e7] ++ [e6]) ++ [e5]) ++ [e4]) ++ [e3]) ++ [e2]) ++ [e1]) ++ [e0]) (by simp only [List.length_cons, List.length_nil]; omega) hl (by simp))
  rcases l with _ | ⟨e9, l⟩
  · exact (raw3n9 e0 e1 e2 e3 e4 e5 e6 e7 e8).trans (main3 [e0, e1, e2, e3, e4, e5, e6, e7, e8] (((((((([e8] ++ [e7]) ++ [e6]) ++ [e5]) ++ [e4]) ++ [e3]) ++ [e2]) ++ [e1]) ++ [e0]) (by simp only [List.length_cons, List.length_nil]; omega) hl (by simp))
  rcases l with _ | ⟨e10, l⟩
  · exact (raw3n10 e0 e1 e2 e3 e4 e5 e6 e7 e8 e9).trans (main3 [e0, e1, e2, e3, e4, e5, e6, e7, e8, e9] ((((((((([e9] ++ [e8]) ++ [e7]) ++ [e6]) ++ [e5]) ++ [e4]) ++ [e3]) ++ [e2]) ++ [e1]) ++ [e0]) (by simp only [List.length_cons, List.length_nil]; omega) hl (by simp))
  rcases l with _ | ⟨e11, l⟩
  · exact (raw3n11 e0 e1 e2 e3 e4 e5 e6 e7 e8 e9 e10).trans (main3 [e0, e1, e2, e3, e4, e5, e6, e7, e8, e9, e10] (((((((((([e10] ++ [e9]) ++ [e8]) ++ [e7]) ++ [e6]) ++ [e5]) ++ [e4]) ++ [e3]) ++ [e2]) ++ [e1]) ++ [e0]) (by simp only [List.length_cons, List.length_nil]; omega) hl (by simp))
  rcases l with _ | ⟨e12, l⟩
  · exact (raw3n12 e0 e1 e2 e3 e4 e5 e6 e7 e8 e9 e10 e11).trans (main3 [e0, e1, e2, e3, e4, e5, e6, e7, e8, e9, e10, e11] ((((((((((([e11] ++ [e10]) ++ [e9]) ++ [e8]) ++ [e7]) ++ [e6]) ++ [e5]) ++ [e4]) ++ [e3]) ++ [e2]) ++ [e1]) ++ [e0]) (by simp only [List.length_cons, List.length_nil]; omega) hl (by simp))
  exact absurd (by simp only [List.length_cons]; omega) h
theorem ok3' (l : List E) (hl : ∀ e ∈ l, lenE e = true) : ∃ fb, ex ((q3f 3 [.sl tE l]).bind (finP true)) false ⟨[], 0⟩ ⟨[], []⟩ = some (.bool true, ⟨[], 0⟩, fb) := by
  have e0 : gt12 [.sl tE l] = decide (l.length > 12) := rfl
  unfold q3f pickS
  rw [e0]
  by_cases h : l.length > 12
  · rw [decide_eq_true h]
    refine ev_ex (cx := cx24) (g := 3) (args := [.sl tE l]) ?_
    have := raw3g l
    rw [decide_eq_true (show (l.length : Int) > 12 by omega)] at this
    exact this
  rw [decide_eq_false h]
  exact ev_ex (cx := cx22) (g := 3) (args := [.sl tE l]) (key3 l hl h)
end Go.Proofs.Ytpahnadbknjepaa.Ex

