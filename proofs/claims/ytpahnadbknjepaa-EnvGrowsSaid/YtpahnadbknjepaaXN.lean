/- A part of the proofs of the laws of environments: XN. -/
import Derived.Test.YtpahnadbknjepaaXK
import Derived.Test.YtpahnadbknjepaaXL
/- Loops G: where each round begins. -/
namespace Go.Proofs.Ytpahnadbknjepaa.Ex
open Go.Proofs Go.Proofs.Ytpahnadbknjepaa
set_option maxRecDepth 100000
set_option linter.unusedVariables false
set_option linter.unusedSimpArgs false
def spG : Nat → Option (List AV → Prog AV)
  | 46 => some (specP true M46)
  | 55 => some (specP true M55)
  | 45 => some (specP true M45)
  | 37 => some (specP true M37)
  | 38 => some (specP true M38)
  | 31 => some (specP true M31)
  | 36 => some (specP true M36)
  | 43 => some (specP true M43)
  | 44 => some (specP true M44)
  | 50 => some (specP true M50)
  | 54 => some (specP true M54)
  | 20 => some (specP true M20)
  | 39 => some (specP true M39)
  | 26 => some (specP true M26)
  | 52 => some (specP true M52)
  | 51 => some (specP true M51)
  | 40 => some (specP true M40)
  | 29 => some (specP true M29)
  | 42 => some (specP true M42w)
  | 21 => some (specP true M21)
  | 24 => some (specP true M24w)
  | 9 => some (specP true M9)
  | 41 => some (cloneP 16 tI)
  | 23 => some (specP true M23)
  | 11 => some (pickS isNil1 (specP true M11N) (specP true M11L))
  | 33 => some (specP true M33)
  | 53 => some (specP true M53)
  | 34 => some (specP true M34)
  | 16 => some (specP true M16)
  | 17 => some (specP true M17)
  | 28 => some (specP true M28)
  | 35 => some (specP true M35)
  | 30 => some (specP true M30)
  | 22 => some (specP true M22)
  | 15 => some (specP true M15)
  | 8 => some (specP true M8)
  | 13 => some (specP true M13)
  | 14 => some (specP true M14)
  | 10 => some (specP true M10)
  | 12 => some (specP true M12)
  | 19 => some (specP true M19)
  | 18 => some (specP true M18)
  | _ => none
noncomputable def cxG : Ctx := { tab := tab, spec := spG, inl := inl, lps := fun _ _ => none, fuel := 10 }
theorem hspG : ∀ g p, cxG.spec g = some p → SoundA Try.prog g p := by
  intro g p h
  change spG g = some p at h
  unfold spG at h
  split at h
  · cases h; exact snd46
  · cases h; exact snd55
  · cases h; exact snd45
  · cases h; exact snd37
  · cases h; exact snd38
  · cases h; exact snd31
  · cases h; exact snd36
  · cases h; exact snd43
  · cases h; exact snd44
  · cases h; exact snd50
  · cases h; exact snd54
  · cases h; exact snd20
  · cases h; exact snd39
  · cases h; exact snd26
  · cases h; exact snd52
  · cases h; exact snd51
  · cases h; exact snd40
  · cases h; exact snd29
  · cases h; exact snd42w
  · cases h; exact snd21
  · cases h; exact snd24w
  · cases h; exact snd9
  · cases h; exact sndClone
  · cases h; exact snd23
  · cases h; exact (SoundA.pick isNil1 snd11 snd11L)
  · cases h; exact snd33
  · cases h; exact snd53
  · cases h; exact snd34w
  · cases h; exact snd16
  · cases h; exact snd17
  · cases h; exact snd28
  · cases h; exact snd35
  · cases h; exact snd30
  · cases h; exact snd22
  · cases h; exact snd15
  · cases h; exact snd8
  · cases h; exact snd13
  · cases h; exact snd14
  · cases h; exact snd10
  · cases h; exact snd12
  · cases h; exact snd19
  · cases h; exact snd18
  · cases h
theorem inG : InlOk Try.prog cxG := ⟨inl_ok, fun _ _ _ _ _ _ _ _ h => nomatch h⟩
theorem calG : CalOk Try.prog (evF cxG keeps 3) := fun g => evF_sound (tabOk_of tab_ok) (cmpsOk_of tab_ok cmps_ok) mixed inG hspG keeps 3 g
theorem okRE_okE {a : E} (h : okRE a = true) : okE a = true := by
  unfold okRE okR at h; unfold okE okL
  simp only [Bool.and_eq_true, decide_eq_true_eq] at h ⊢; omega
theorem okRE_wid {a b : E} (st : List Int) (ha : okRE a = true) (hb : okRE b = true) : okRE (widE a b st) = true := by
  rw [wid2]
  cases a.1 <;> cases b.1
  · rfl
  · exact hb
  · exact ha
  · simp only [Bool.not_true, cond_false]
    unfold okRE okR at ha ⊢
    unfold wmergeE
    simp only [len_widR]
    exact ha
theorem hlG : ∀ q ∈ loopsOf 2 (bodyX 7 2), ∀ p, cxG.lps 7 q.1 = some p → SoundC Try.prog 77 (.loop q.2) p := by intro q hq p hp; cases hp
def keepL7 : List Nat := [0, 1, 7, 8, 5, 6, 4]
noncomputable def FL7 (base : Nat) : Tm → Prog (Nat × Tm) := evC cxG (evF cxG keeps 3) ⟨7, 77, keeps 7, base⟩ 2 (bodyX 7 2)
def TL7 (l : List E) (st : List Int) (k : Int) (i : Int) (g : Int) : Tm := [(0, .sl (.st (.pair .bool (.pair (.sl (.st (.pair (.int .i64) (.int .i64)))) (.pair (.sl (.st (.pair (.int .i64) (.int .i64)))) (.pair (.sl (.st (.pair (.int .i64) (.int .i64)))) (.pair (.int .i64) (.int .i64))))))) l), (1, .sl (.int .i64) st), (7, .int .i64 k), (8, .int .i64 i), (5, .ptr 0 0), (6, .int .i64 g), (4, .bool false)]
def HL7 (x : E) : Hp := ⟨[(0, .box [.bool x.1, .sl tI x.2.1, .sl tI x.2.2.1, .sl tI x.2.2.2.1, .int .i64 x.2.2.2.2.1, .int .i64 x.2.2.2.2.2])], 1⟩
end Go.Proofs.Ytpahnadbknjepaa.Ex

/- Loops G: each round. -/
namespace Go.Proofs.Ytpahnadbknjepaa.Ex
open Go.Proofs Go.Proofs.Ytpahnadbknjepaa
set_option maxRecDepth 100000
set_option linter.unusedVariables false
set_option linter.unusedSimpArgs false
theorem rnd7 {R : Type} (l : List E) (st : List Int) (k : Int) (i : Int) (g : Int) (x : E) (K : Nat → Tm → Hp → Option R) : round 0 keepL7 (FL7 0) (TL7 l st k i g) (HL7 x) K =
  bif Decidable.decide (i < (↑l.length : Int)) then
    bif Decidable.decide (0 ≤ i) then
      Go.Proofs.Ytpahnadbknjepaa.Ex.optC l[i.toNat]? Option.none fun d8 ↦
        bif Go.Proofs.Ytpahnadbknjepaa.Ex.okRE x && Go.Proofs.Ytpahnadbknjepaa.Ex.okRE d8 && Go.Proofs.Ytpahnadbknjepaa.Ex.okLen st then
          bif Go.Proofs.Ytpahnadbknjepaa.Ex.okE x then
            bif !Go.Proofs.Ytpahnadbknjepaa.Ex.leqE x (Go.Proofs.Ytpahnadbknjepaa.Ex.widE x d8 st) then
              K 1
                [(0,
                    Go.Proofs.Ytpahnadbknjepaa.Ex.AV.sl
                      (Go.Proofs.Ytpahnadbknjepaa.Ex.Ty.bool.pair
                          (((Go.Proofs.Ytpahnadbknjepaa.Ex.Ty.int Go.IntKind.i64).pair (Go.Proofs.Ytpahnadbknjepaa.Ex.Ty.int Go.IntKind.i64)).st.sl.pair
                            (((Go.Proofs.Ytpahnadbknjepaa.Ex.Ty.int Go.IntKind.i64).pair (Go.Proofs.Ytpahnadbknjepaa.Ex.Ty.int Go.IntKind.i64)).st.sl.pair
                              (((Go.Proofs.Ytpahnadbknjepaa.Ex.Ty.int Go.IntKind.i64).pair (Go.Proofs.Ytpahnadbknjepaa.Ex.Ty.int Go.IntKind.i64)).st.sl.pair ((Go.Proofs.Ytpahnadbknjepaa.Ex.Ty.int Go.IntKind.i64).pair (Go.Proofs.Ytpahnadbknjepaa.Ex.Ty.int Go.IntKind.i64)))))).st
                      l),
                  (1, Go.Proofs.Ytpahnadbknjepaa.Ex.AV.sl (Go.Proofs.Ytpahnadbknjepaa.Ex.Ty.int Go.IntKind.i64) st), (7, Go.Proofs.Ytpahnadbknjepaa.Ex.AV.int Go.IntKind.i64 k), (8, Go.Proofs.Ytpahnadbknjepaa.Ex.AV.int Go.IntKind.i64 i), (5, Go.Proofs.Ytpahnadbknjepaa.Ex.AV.ptr 0 0), (6, Go.Proofs.Ytpahnadbknjepaa.Ex.AV.int Go.IntKind.i64 g),
                  (4, Go.Proofs.Ytpahnadbknjepaa.Ex.AV.bool Bool.false)]
                {
                  blks :=
                    [(0,
                        Go.Proofs.Ytpahnadbknjepaa.Ex.Blk.box
                          [Go.Proofs.Ytpahnadbknjepaa.Ex.AV.bool x.fst, Go.Proofs.Ytpahnadbknjepaa.Ex.AV.sl ((Go.Proofs.Ytpahnadbknjepaa.Ex.Ty.int Go.IntKind.i64).pair (Go.Proofs.Ytpahnadbknjepaa.Ex.Ty.int Go.IntKind.i64)).st x.snd.fst,
                            Go.Proofs.Ytpahnadbknjepaa.Ex.AV.sl ((Go.Proofs.Ytpahnadbknjepaa.Ex.Ty.int Go.IntKind.i64).pair (Go.Proofs.Ytpahnadbknjepaa.Ex.Ty.int Go.IntKind.i64)).st x.snd.snd.fst,
                            Go.Proofs.Ytpahnadbknjepaa.Ex.AV.sl ((Go.Proofs.Ytpahnadbknjepaa.Ex.Ty.int Go.IntKind.i64).pair (Go.Proofs.Ytpahnadbknjepaa.Ex.Ty.int Go.IntKind.i64)).st x.snd.snd.snd.fst, Go.Proofs.Ytpahnadbknjepaa.Ex.AV.int Go.IntKind.i64 x.snd.snd.snd.snd.fst,
                            Go.Proofs.Ytpahnadbknjepaa.Ex.AV.int Go.IntKind.i64 x.snd.snd.snd.snd.snd])],
                  c := 1 }
            else
              bif Decidable.decide (0 ≤ i) then
                Go.Proofs.Ytpahnadbknjepaa.Ex.optC l[i.toNat]? Option.none fun d9 ↦
                  bif Go.Proofs.Ytpahnadbknjepaa.Ex.okE d9 then
                    bif !Go.Proofs.Ytpahnadbknjepaa.Ex.leqE d9 (Go.Proofs.Ytpahnadbknjepaa.Ex.widE x d8 st) then
                      K 1
                        [(0,
                            Go.Proofs.Ytpahnadbknjepaa.Ex.AV.sl
                              (Go.Proofs.Ytpahnadbknjepaa.Ex.Ty.bool.pair
                                  (((Go.Proofs.Ytpahnadbknjepaa.Ex.Ty.int Go.IntKind.i64).pair (Go.Proofs.Ytpahnadbknjepaa.Ex.Ty.int Go.IntKind.i64)).st.sl.pair
                                    (((Go.Proofs.Ytpahnadbknjepaa.Ex.Ty.int Go.IntKind.i64).pair (Go.Proofs.Ytpahnadbknjepaa.Ex.Ty.int Go.IntKind.i64)).st.sl.pair
                                      (((Go.Proofs.Ytpahnadbknjepaa.Ex.Ty.int Go.IntKind.i64).pair (Go.Proofs.Ytpahnadbknjepaa.Ex.Ty.int Go.IntKind.i64)).st.sl.pair ((Go.Proofs.Ytpahnadbknjepaa.Ex.Ty.int Go.IntKind.i64).pair (Go.Proofs.Ytpahnadbknjepaa.Ex.Ty.int Go.IntKind.i64)))))).st
                              l),
                          (1, Go.Proofs.Ytpahnadbknjepaa.Ex.AV.sl (Go.Proofs.Ytpahnadbknjepaa.Ex.Ty.int Go.IntKind.i64) st), (7, Go.Proofs.Ytpahnadbknjepaa.Ex.AV.int Go.IntKind.i64 k), (8, Go.Proofs.Ytpahnadbknjepaa.Ex.AV.int Go.IntKind.i64 i), (5, Go.Proofs.Ytpahnadbknjepaa.Ex.AV.ptr 0 0),
                          (6, Go.Proofs.Ytpahnadbknjepaa.Ex.AV.int Go.IntKind.i64 g), (4, Go.Proofs.Ytpahnadbknjepaa.Ex.AV.bool Bool.false)]
                        {
                          blks :=
                            [(0,
                                Go.Proofs.Ytpahnadbknjepaa.Ex.Blk.box
                                  [Go.Proofs.Ytpahnadbknjepaa.Ex.AV.bool x.fst, Go.Proofs.Ytpahnadbknjepaa.Ex.AV.sl ((Go.Proofs.Ytpahnadbknjepaa.Ex.Ty.int Go.IntKind.i64).pair (Go.Proofs.Ytpahnadbknjepaa.Ex.Ty.int Go.IntKind.i64)).st x.snd.fst,
                                    Go.Proofs.Ytpahnadbknjepaa.Ex.AV.sl ((Go.Proofs.Ytpahnadbknjepaa.Ex.Ty.int Go.IntKind.i64).pair (Go.Proofs.Ytpahnadbknjepaa.Ex.Ty.int Go.IntKind.i64)).st x.snd.snd.fst,
                                    Go.Proofs.Ytpahnadbknjepaa.Ex.AV.sl ((Go.Proofs.Ytpahnadbknjepaa.Ex.Ty.int Go.IntKind.i64).pair (Go.Proofs.Ytpahnadbknjepaa.Ex.Ty.int Go.IntKind.i64)).st x.snd.snd.snd.fst, Go.Proofs.Ytpahnadbknjepaa.Ex.AV.int Go.IntKind.i64 x.snd.snd.snd.snd.fst,
                                    Go.Proofs.Ytpahnadbknjepaa.Ex.AV.int Go.IntKind.i64 x.snd.snd.snd.snd.snd])],
                          c := 1 }
                    else
                      bif k == 2 then
                        bif Go.Proofs.Ytpahnadbknjepaa.Ex.okE x then
                          bif !Go.Proofs.Ytpahnadbknjepaa.Ex.sameE x (Go.Proofs.Ytpahnadbknjepaa.Ex.widE x d8 st) then
                            K 0
                              [(0,
                                  Go.Proofs.Ytpahnadbknjepaa.Ex.AV.sl
                                    (Go.Proofs.Ytpahnadbknjepaa.Ex.Ty.bool.pair
                                        (((Go.Proofs.Ytpahnadbknjepaa.Ex.Ty.int Go.IntKind.i64).pair (Go.Proofs.Ytpahnadbknjepaa.Ex.Ty.int Go.IntKind.i64)).st.sl.pair
                                          (((Go.Proofs.Ytpahnadbknjepaa.Ex.Ty.int Go.IntKind.i64).pair (Go.Proofs.Ytpahnadbknjepaa.Ex.Ty.int Go.IntKind.i64)).st.sl.pair
                                            (((Go.Proofs.Ytpahnadbknjepaa.Ex.Ty.int Go.IntKind.i64).pair (Go.Proofs.Ytpahnadbknjepaa.Ex.Ty.int Go.IntKind.i64)).st.sl.pair ((Go.Proofs.Ytpahnadbknjepaa.Ex.Ty.int Go.IntKind.i64).pair (Go.Proofs.Ytpahnadbknjepaa.Ex.Ty.int Go.IntKind.i64)))))).st
                                    l),
                                (1, Go.Proofs.Ytpahnadbknjepaa.Ex.AV.sl (Go.Proofs.Ytpahnadbknjepaa.Ex.Ty.int Go.IntKind.i64) st), (7, Go.Proofs.Ytpahnadbknjepaa.Ex.AV.int Go.IntKind.i64 k), (8, Go.Proofs.Ytpahnadbknjepaa.Ex.AV.int Go.IntKind.i64 (Go.IntKind.i64.wrap (i + 1))),
                                (5, Go.Proofs.Ytpahnadbknjepaa.Ex.AV.ptr 0 0), (6, Go.Proofs.Ytpahnadbknjepaa.Ex.AV.int Go.IntKind.i64 (Go.IntKind.i64.wrap (g + 1))), (4, Go.Proofs.Ytpahnadbknjepaa.Ex.AV.bool Bool.false)]
                              {
                                blks :=
                                  [(0,
                                      Go.Proofs.Ytpahnadbknjepaa.Ex.Blk.box
                                        [Go.Proofs.Ytpahnadbknjepaa.Ex.AV.bool (Go.Proofs.Ytpahnadbknjepaa.Ex.widE x d8 st).fst, Go.Proofs.Ytpahnadbknjepaa.Ex.AV.sl ((Go.Proofs.Ytpahnadbknjepaa.Ex.Ty.int Go.IntKind.i64).pair (Go.Proofs.Ytpahnadbknjepaa.Ex.Ty.int Go.IntKind.i64)).st (Go.Proofs.Ytpahnadbknjepaa.Ex.widE x d8 st).snd.fst,
                                          Go.Proofs.Ytpahnadbknjepaa.Ex.AV.sl ((Go.Proofs.Ytpahnadbknjepaa.Ex.Ty.int Go.IntKind.i64).pair (Go.Proofs.Ytpahnadbknjepaa.Ex.Ty.int Go.IntKind.i64)).st (Go.Proofs.Ytpahnadbknjepaa.Ex.widE x d8 st).snd.snd.fst,
                                          Go.Proofs.Ytpahnadbknjepaa.Ex.AV.sl ((Go.Proofs.Ytpahnadbknjepaa.Ex.Ty.int Go.IntKind.i64).pair (Go.Proofs.Ytpahnadbknjepaa.Ex.Ty.int Go.IntKind.i64)).st (Go.Proofs.Ytpahnadbknjepaa.Ex.widE x d8 st).snd.snd.snd.fst,
                                          Go.Proofs.Ytpahnadbknjepaa.Ex.AV.int Go.IntKind.i64 (Go.Proofs.Ytpahnadbknjepaa.Ex.widE x d8 st).snd.snd.snd.snd.fst, Go.Proofs.Ytpahnadbknjepaa.Ex.AV.int Go.IntKind.i64 (Go.Proofs.Ytpahnadbknjepaa.Ex.widE x d8 st).snd.snd.snd.snd.snd])],
                                c := 1 }
                          else
                            K 0
                              [(0,
                                  Go.Proofs.Ytpahnadbknjepaa.Ex.AV.sl
                                    (Go.Proofs.Ytpahnadbknjepaa.Ex.Ty.bool.pair
                                        (((Go.Proofs.Ytpahnadbknjepaa.Ex.Ty.int Go.IntKind.i64).pair (Go.Proofs.Ytpahnadbknjepaa.Ex.Ty.int Go.IntKind.i64)).st.sl.pair
                                          (((Go.Proofs.Ytpahnadbknjepaa.Ex.Ty.int Go.IntKind.i64).pair (Go.Proofs.Ytpahnadbknjepaa.Ex.Ty.int Go.IntKind.i64)).st.sl.pair
                                            (((Go.Proofs.Ytpahnadbknjepaa.Ex.Ty.int Go.IntKind.i64).pair (Go.Proofs.Ytpahnadbknjepaa.Ex.Ty.int Go.IntKind.i64)).st.sl.pair ((Go.Proofs.Ytpahnadbknjepaa.Ex.Ty.int Go.IntKind.i64).pair (Go.Proofs.Ytpahnadbknjepaa.Ex.Ty.int Go.IntKind.i64)))))).st
                                    l),
                                (1, Go.Proofs.Ytpahnadbknjepaa.Ex.AV.sl (Go.Proofs.Ytpahnadbknjepaa.Ex.Ty.int Go.IntKind.i64) st), (7, Go.Proofs.Ytpahnadbknjepaa.Ex.AV.int Go.IntKind.i64 k), (8, Go.Proofs.Ytpahnadbknjepaa.Ex.AV.int Go.IntKind.i64 (Go.IntKind.i64.wrap (i + 1))),
                                (5, Go.Proofs.Ytpahnadbknjepaa.Ex.AV.ptr 0 0), (6, Go.Proofs.Ytpahnadbknjepaa.Ex.AV.int Go.IntKind.i64 g), (4, Go.Proofs.Ytpahnadbknjepaa.Ex.AV.bool Bool.false)]
                              {
                                blks :=
                                  [(0,
                                      Go.Proofs.Ytpahnadbknjepaa.Ex.Blk.box
                                        [Go.Proofs.Ytpahnadbknjepaa.Ex.AV.bool (Go.Proofs.Ytpahnadbknjepaa.Ex.widE x d8 st).fst, Go.Proofs.Ytpahnadbknjepaa.Ex.AV.sl ((Go.Proofs.Ytpahnadbknjepaa.Ex.Ty.int Go.IntKind.i64).pair (Go.Proofs.Ytpahnadbknjepaa.Ex.Ty.int Go.IntKind.i64)).st (Go.Proofs.Ytpahnadbknjepaa.Ex.widE x d8 st).snd.fst,
                                          Go.Proofs.Ytpahnadbknjepaa.Ex.AV.sl ((Go.Proofs.Ytpahnadbknjepaa.Ex.Ty.int Go.IntKind.i64).pair (Go.Proofs.Ytpahnadbknjepaa.Ex.Ty.int Go.IntKind.i64)).st (Go.Proofs.Ytpahnadbknjepaa.Ex.widE x d8 st).snd.snd.fst,
                                          Go.Proofs.Ytpahnadbknjepaa.Ex.AV.sl ((Go.Proofs.Ytpahnadbknjepaa.Ex.Ty.int Go.IntKind.i64).pair (Go.Proofs.Ytpahnadbknjepaa.Ex.Ty.int Go.IntKind.i64)).st (Go.Proofs.Ytpahnadbknjepaa.Ex.widE x d8 st).snd.snd.snd.fst,
                                          Go.Proofs.Ytpahnadbknjepaa.Ex.AV.int Go.IntKind.i64 (Go.Proofs.Ytpahnadbknjepaa.Ex.widE x d8 st).snd.snd.snd.snd.fst, Go.Proofs.Ytpahnadbknjepaa.Ex.AV.int Go.IntKind.i64 (Go.Proofs.Ytpahnadbknjepaa.Ex.widE x d8 st).snd.snd.snd.snd.snd])],
                                c := 1 }
                        else Option.none
                      else
                        K 0
                          [(0,
                              Go.Proofs.Ytpahnadbknjepaa.Ex.AV.sl
                                (Go.Proofs.Ytpahnadbknjepaa.Ex.Ty.bool.pair
                                    (((Go.Proofs.Ytpahnadbknjepaa.Ex.Ty.int Go.IntKind.i64).pair (Go.Proofs.Ytpahnadbknjepaa.Ex.Ty.int Go.IntKind.i64)).st.sl.pair
                                      (((Go.Proofs.Ytpahnadbknjepaa.Ex.Ty.int Go.IntKind.i64).pair (Go.Proofs.Ytpahnadbknjepaa.Ex.Ty.int Go.IntKind.i64)).st.sl.pair
                                        (((Go.Proofs.Ytpahnadbknjepaa.Ex.Ty.int Go.IntKind.i64).pair (Go.Proofs.Ytpahnadbknjepaa.Ex.Ty.int Go.IntKind.i64)).st.sl.pair ((Go.Proofs.Ytpahnadbknjepaa.Ex.Ty.int Go.IntKind.i64).pair (Go.Proofs.Ytpahnadbknjepaa.Ex.Ty.int Go.IntKind.i64)))))).st
                                l),
                            (1, Go.Proofs.Ytpahnadbknjepaa.Ex.AV.sl (Go.Proofs.Ytpahnadbknjepaa.Ex.Ty.int Go.IntKind.i64) st), (7, Go.Proofs.Ytpahnadbknjepaa.Ex.AV.int Go.IntKind.i64 k), (8, Go.Proofs.Ytpahnadbknjepaa.Ex.AV.int Go.IntKind.i64 (Go.IntKind.i64.wrap (i + 1))), (5, Go.Proofs.Ytpahnadbknjepaa.Ex.AV.ptr 0 0),
                            (6, Go.Proofs.Ytpahnadbknjepaa.Ex.AV.int Go.IntKind.i64 g), (4, Go.Proofs.Ytpahnadbknjepaa.Ex.AV.bool Bool.false)]
                          {
                            blks :=
                              [(0,
                                  Go.Proofs.Ytpahnadbknjepaa.Ex.Blk.box
                                    [Go.Proofs.Ytpahnadbknjepaa.Ex.AV.bool (Go.Proofs.Ytpahnadbknjepaa.Ex.widE x d8 st).fst, Go.Proofs.Ytpahnadbknjepaa.Ex.AV.sl ((Go.Proofs.Ytpahnadbknjepaa.Ex.Ty.int Go.IntKind.i64).pair (Go.Proofs.Ytpahnadbknjepaa.Ex.Ty.int Go.IntKind.i64)).st (Go.Proofs.Ytpahnadbknjepaa.Ex.widE x d8 st).snd.fst,
                                      Go.Proofs.Ytpahnadbknjepaa.Ex.AV.sl ((Go.Proofs.Ytpahnadbknjepaa.Ex.Ty.int Go.IntKind.i64).pair (Go.Proofs.Ytpahnadbknjepaa.Ex.Ty.int Go.IntKind.i64)).st (Go.Proofs.Ytpahnadbknjepaa.Ex.widE x d8 st).snd.snd.fst,
                                      Go.Proofs.Ytpahnadbknjepaa.Ex.AV.sl ((Go.Proofs.Ytpahnadbknjepaa.Ex.Ty.int Go.IntKind.i64).pair (Go.Proofs.Ytpahnadbknjepaa.Ex.Ty.int Go.IntKind.i64)).st (Go.Proofs.Ytpahnadbknjepaa.Ex.widE x d8 st).snd.snd.snd.fst,
                                      Go.Proofs.Ytpahnadbknjepaa.Ex.AV.int Go.IntKind.i64 (Go.Proofs.Ytpahnadbknjepaa.Ex.widE x d8 st).snd.snd.snd.snd.fst, Go.Proofs.Ytpahnadbknjepaa.Ex.AV.int Go.IntKind.i64 (Go.Proofs.Ytpahnadbknjepaa.Ex.widE x d8 st).snd.snd.snd.snd.snd])],
                            c := 1 }
                  else Option.none
              else Option.none
          else Option.none
        else Option.none
    else Option.none
  else
    K 4
      [(0,
          Go.Proofs.Ytpahnadbknjepaa.Ex.AV.sl
            (Go.Proofs.Ytpahnadbknjepaa.Ex.Ty.bool.pair
                (((Go.Proofs.Ytpahnadbknjepaa.Ex.Ty.int Go.IntKind.i64).pair (Go.Proofs.Ytpahnadbknjepaa.Ex.Ty.int Go.IntKind.i64)).st.sl.pair
                  (((Go.Proofs.Ytpahnadbknjepaa.Ex.Ty.int Go.IntKind.i64).pair (Go.Proofs.Ytpahnadbknjepaa.Ex.Ty.int Go.IntKind.i64)).st.sl.pair
                    (((Go.Proofs.Ytpahnadbknjepaa.Ex.Ty.int Go.IntKind.i64).pair (Go.Proofs.Ytpahnadbknjepaa.Ex.Ty.int Go.IntKind.i64)).st.sl.pair ((Go.Proofs.Ytpahnadbknjepaa.Ex.Ty.int Go.IntKind.i64).pair (Go.Proofs.Ytpahnadbknjepaa.Ex.Ty.int Go.IntKind.i64)))))).st
            l),
        (1, Go.Proofs.Ytpahnadbknjepaa.Ex.AV.sl (Go.Proofs.Ytpahnadbknjepaa.Ex.Ty.int Go.IntKind.i64) st), (7, Go.Proofs.Ytpahnadbknjepaa.Ex.AV.int Go.IntKind.i64 k), (8, Go.Proofs.Ytpahnadbknjepaa.Ex.AV.int Go.IntKind.i64 i), (5, Go.Proofs.Ytpahnadbknjepaa.Ex.AV.ptr 0 0), (6, Go.Proofs.Ytpahnadbknjepaa.Ex.AV.int Go.IntKind.i64 g),
        (4, Go.Proofs.Ytpahnadbknjepaa.Ex.AV.bool Bool.false)]
      {
        blks :=
          [(0,
              Go.Proofs.Ytpahnadbknjepaa.Ex.Blk.box
                [Go.Proofs.Ytpahnadbknjepaa.Ex.AV.bool x.fst, Go.Proofs.Ytpahnadbknjepaa.Ex.AV.sl ((Go.Proofs.Ytpahnadbknjepaa.Ex.Ty.int Go.IntKind.i64).pair (Go.Proofs.Ytpahnadbknjepaa.Ex.Ty.int Go.IntKind.i64)).st x.snd.fst,
                  Go.Proofs.Ytpahnadbknjepaa.Ex.AV.sl ((Go.Proofs.Ytpahnadbknjepaa.Ex.Ty.int Go.IntKind.i64).pair (Go.Proofs.Ytpahnadbknjepaa.Ex.Ty.int Go.IntKind.i64)).st x.snd.snd.fst,
                  Go.Proofs.Ytpahnadbknjepaa.Ex.AV.sl ((Go.Proofs.Ytpahnadbknjepaa.Ex.Ty.int Go.IntKind.i64).pair (Go.Proofs.Ytpahnadbknjepaa.Ex.Ty.int Go.IntKind.i64)).st x.snd.snd.snd.fst, Go.Proofs.Ytpahnadbknjepaa.Ex.AV.int Go.IntKind.i64 x.snd.snd.snd.snd.fst,
                  Go.Proofs.Ytpahnadbknjepaa.Ex.AV.int Go.IntKind.i64 x.snd.snd.snd.snd.snd])],
        c := 1 } := by kernel_rfl
end Go.Proofs.Ytpahnadbknjepaa.Ex

/- Loops G: what they come to. -/
namespace Go.Proofs.Ytpahnadbknjepaa.Ex
open Go.Proofs Go.Proofs.Ytpahnadbknjepaa
set_option maxRecDepth 100000
set_option linter.unusedVariables false
set_option linter.unusedSimpArgs false
def stepL7 (st : List Int) (k : Int)  (i : Nat) (x : E) (g : Int) (d : E) : (E × Int) ⊕ (Nat × E × Int) := if leqE x (widE x d st) && leqE d (widE x d st) then .inl (widE x d st, if k == 2 && !sameE x (widE x d st) then IntKind.i64.wrap (g + 1) else g) else .inr (i, x, g)
def allL7 (st : List Int) (k : Int) (l0 : List E) : Bool := l0.all fun d => okRE d && okLen st
def outL7 (st : List Int) (k : Int) (l : List E) : (Nat × E × Int) → Out3 := fun e => ((1, TL7 l st k (e.1 : Nat) e.2.2), HL7 e.2.1)
def vL7 (st : List Int) (k : Int) (l : List E) (s : E × Int) : (E × Int) ⊕ (Nat × E × Int) := runS (fun i s d => stepL7 st k  i (s.1) (s.2) d) 0 l s
theorem runL7 (st : List Int) (k : Int) (l : List E) (hl : l.length ≤ 4611686018427387904) (ha : allL7 st k l = true) (s : E × Int) (hI : okRE (s.1) = true) :
    go (iterM 0 keepL7 (FL7 0) (l.length + 1) (TL7 l st k 0 (s.2))) (HL7 (s.1)) = some ((vL7 st k l s).elim (fun s => (((4, TL7 l st k (l.length : Nat) (s.2)), HL7 (s.1)) : Out3)) (outL7 st k l)) := by
  have key := range_loop (keep := keepL7) (F := FL7 0) (fun i s => okRE (s.1) = true) l (fun i s => TL7 l st k (i : Nat) (s.2)) (fun i s => HL7 (s.1)) (fun i s d => (stepL7 st k  i (s.1) (s.2) d).elim .inl (fun e =>   .inr (outL7 st k l e))) (fun s => (((4, TL7 l st k (l.length : Nat) (s.2)), HL7 (s.1)) : Out3)) ?_ ?_ ?_ ?_ ?_ l 0 s rfl (Nat.zero_le _) hI
  · rw [runL_elim] at key
    exact key
  · intro i s d hi hd hm hI K
    have ha := List.all_eq_true.1 ha d hm
    rw [rnd7]
    have e1 : decide ((i : Int) < ((l.length : Nat) : Int)) = true := decide_eq_true (by omega)
    have e2 : decide (0 ≤ (i : Int)) = true := decide_eq_true (by omega)
    rw [e1, e2, Int.toNat_natCast, wrap_up hi hl]
    rw [hd]; simp only [Bool.and_eq_true] at ha; obtain ⟨hb, hst⟩ := ha
    obtain ⟨⟨s1, s2, s3, s4, s5, s6⟩, g⟩ := s
    have hI : okRE (s1, s2, s3, s4, s5, s6) = true := hI
    have hE := okRE_okE hI
    have hbE := okRE_okE hb
    have e4 : (okRE (s1, s2, s3, s4, s5, s6) && okRE d && okLen st) = true := by rw [hI, hb, hst]; rfl
    simp only [optC, cond_true, hI, hb, hst, hE, hbE, e4, Bool.and_true]
    unfold stepL7
    generalize hw : widE (s1, s2, s3, s4, s5, s6) d st = w
    cases leqE (s1, s2, s3, s4, s5, s6) w
    · rfl
    cases leqE d w
    · rfl
    cases (k == 2)
    · rfl
    cases sameE (s1, s2, s3, s4, s5, s6) w <;> rfl
  · intro i s d s' hd hI e
    have ha := List.all_eq_true.1 ha d hd
    simp only [Bool.and_eq_true] at ha
    unfold stepL7 at e
    split at e
    · cases e; exact okRE_wid _ hI ha.1
    · cases e
  · intro i s d x e; revert e; cases stepL7 st k  i (s.1) (s.2) d with | inl a => intro e; cases e | inr a => intro e; cases e; exact nofun
  · intro s K
    rw [rnd7]
    have e1 : decide (((l.length : Nat) : Int) < ((l.length : Nat) : Int)) = false := decide_eq_false (by omega)
    rw [e1]
    rfl
  · intro s; exact nofun
def dT7 : Tm → Option (List E × List Int × Int × Int × Int)
  | [(0, .sl (.st (.pair .bool (.pair (.sl (.st (.pair (.int .i64) (.int .i64)))) (.pair (.sl (.st (.pair (.int .i64) (.int .i64)))) (.pair (.sl (.st (.pair (.int .i64) (.int .i64)))) (.pair (.int .i64) (.int .i64))))))) l), (1, .sl (.int .i64) st), (7, .int .i64 k), (8, .int .i64 i), (5, .ptr 0 0), (6, .int .i64 g), (4, .bool false)] => some (l, st, k, i, g)
  | _ => none
def dH7 : Hp → Option (E)
  | ⟨[(0, .box [.bool x1, .sl (.st (.pair (.int .i64) (.int .i64))) x2, .sl (.st (.pair (.int .i64) (.int .i64))) x3, .sl (.st (.pair (.int .i64) (.int .i64))) x4, .int .i64 x5, .int .i64 x6])], 1⟩ => some (x1, x2, x3, x4, x5, x6)
  | _ => none
theorem dT7_some {T : Tm} {t : List E × List Int × Int × Int × Int} (e : dT7 T = some t) : T = TL7 (t.1) (t.2.1) (t.2.2.1) (t.2.2.2.1) (t.2.2.2.2) := by
  unfold dT7 at e
  split at e
  · cases e; rfl
  · cases e
theorem dH7_some {h : Hp} {u : E} (e : dH7 h = some u) : h = HL7 (u) := by
  unfold dH7 at e
  split at e
  · cases e; rfl
  · cases e
def qL7 (base : Nat) (T : Tm) : Prog (Nat × Tm) := match base with
  | 0 => match dT7 T with
    | some t => loopB dH7 (fun u => ((t.2.2.2.1) == 0) && decide (((t.1).length : Int) ≤ 4611686018427387904) && allL7 (t.2.1) (t.2.2.1) (t.1) && okRE (u)) (fun u => vL7 (t.2.1) (t.2.2.1) (t.1) ((u), (t.2.2.2.2))) (fun u s => (((4, TL7 (t.1) (t.2.1) (t.2.2.1) ((t.1).length : Nat) (s.2)), HL7 (s.1)) : Out3)) (fun u e => outL7 (t.2.1) (t.2.2.1) (t.1) e)
    | none => .fail
  | _ + 1 => .fail
theorem qgo7 (base : Nat) (T : Tm) (h : Hp) (r : Nat × Tm) (h' : Hp) (e : go (qL7 base T) h = some (r, h')) : ∃ m, go (iterM base keepL7 (FL7 base) m T) h = some (r, h') := by
  unfold qL7 at e
  split at e
  · split at e
    · rename_i t ht
      obtain ⟨u, hu, c, e2⟩ := loopB_go e
      rw [dT7_some ht, dH7_some hu]
      simp only [Bool.and_eq_true, beq_iff_eq, decide_eq_true_eq] at c
      obtain ⟨c, ci⟩ := c
      obtain ⟨c, ca⟩ := c
      obtain ⟨c1, c3⟩ := c
      refine ⟨(t.1).length + 1, ?_⟩
      rw [c1]
      rw [e2]
      have := runL7 (t.2.1) (t.2.2.1) (t.1) (by omega) ca ((u), (t.2.2.2.2)) ci
      revert this; unfold Sum.elim; cases vL7 (t.2.1) (t.2.2.1) (t.1) ((u), (t.2.2.2.2)) <;> exact id
    · cases e
  · cases e
noncomputable def lpL7 (base : Nat) (T : Tm) : Prog (Nat × Tm) := .norm base keepL7 T (qL7 base)
theorem sndL7 : SoundC Try.prog 77 (.loop (bodyX 7 2)) lpL7 :=
  loop_sound (cx := cxG) (cal := evF cxG keeps 3) (kp := keeps 7) (tabOk_of tab_ok) (cmpsOk_of tab_ok cmps_ok) calG mixed (hlG) qgo7
end Go.Proofs.Ytpahnadbknjepaa.Ex

/- Contracts, level 21. -/
namespace Go.Proofs.Ytpahnadbknjepaa.Ex
open Go.Proofs Go.Proofs.Ytpahnadbknjepaa
set_option maxRecDepth 100000
set_option linter.unusedSimpArgs false
set_option linter.unusedVariables false
def sp21 : Nat → Option (List AV → Prog AV)
  | 46 => some (specP true M46)
  | 55 => some (specP true M55)
  | 45 => some (specP true M45)
  | 37 => some (specP true M37)
  | 38 => some (specP true M38)
  | 31 => some (specP true M31)
  | 36 => some (specP true M36)
  | 43 => some (specP true M43)
  | 44 => some (specP true M44)
  | 50 => some (specP true M50)
  | 54 => some (specP true M54)
  | 20 => some (specP true M20)
  | 39 => some (specP true M39)
  | 26 => some (specP true M26)
  | 52 => some (specP true M52)
  | 51 => some (specP true M51)
  | 40 => some (specP true M40)
  | 29 => some (specP true M29)
  | 42 => some (specP true M42w)
  | 21 => some (specP true M21)
  | 24 => some (specP true M24w)
  | 9 => some (specP true M9)
  | 41 => some (cloneP 16 tI)
  | 23 => some (specP true M23)
  | 11 => some (pickS isNil1 (specP true M11N) (specP true M11L))
  | 33 => some (specP true M33)
  | 53 => some (specP true M53)
  | 34 => some (specP true M34)
  | 16 => some (specP true M16)
  | 17 => some (specP true M17)
  | 28 => some (specP true M28)
  | 35 => some (specP true M35)
  | 30 => some (specP true M30)
  | 22 => some (specP true M22)
  | 15 => some (specP true M15)
  | 8 => some (specP true M8)
  | 13 => some (specP true M13)
  | 14 => some (specP true M14)
  | 10 => some (specP true M10)
  | 12 => some (specP true M12)
  | 19 => some (specP true M19)
  | 18 => some (specP true M18)
  | _ => none
noncomputable def lp21 : Nat → Nat → Option (Nat → Tm → Prog (Nat × Tm))
  | 7, 2 => some lpL7
  | _, _ => none
noncomputable def cx21 : Ctx := { tab := tab, spec := sp21, inl := inl, lps := lp21, fuel := 10 }
theorem hsp21 : ∀ g p, cx21.spec g = some p → SoundA Try.prog g p := by
  intro g p h
  change sp21 g = some p at h
  unfold sp21 at h
  split at h
  · cases h; exact snd46
  · cases h; exact snd55
  · cases h; exact snd45
  · cases h; exact snd37
  · cases h; exact snd38
  · cases h; exact snd31
  · cases h; exact snd36
  · cases h; exact snd43
  · cases h; exact snd44
  · cases h; exact snd50
  · cases h; exact snd54
  · cases h; exact snd20
  · cases h; exact snd39
  · cases h; exact snd26
  · cases h; exact snd52
  · cases h; exact snd51
  · cases h; exact snd40
  · cases h; exact snd29
  · cases h; exact snd42w
  · cases h; exact snd21
  · cases h; exact snd24w
  · cases h; exact snd9
  · cases h; exact sndClone
  · cases h; exact snd23
  · cases h; exact (SoundA.pick isNil1 snd11 snd11L)
  · cases h; exact snd33
  · cases h; exact snd53
  · cases h; exact snd34w
  · cases h; exact snd16
  · cases h; exact snd17
  · cases h; exact snd28
  · cases h; exact snd35
  · cases h; exact snd30
  · cases h; exact snd22
  · cases h; exact snd15
  · cases h; exact snd8
  · cases h; exact snd13
  · cases h; exact snd14
  · cases h; exact snd10
  · cases h; exact snd12
  · cases h; exact snd19
  · cases h; exact snd18
  · cases h
theorem in21 : InlOk Try.prog cx21 := ⟨inl_ok, fun g fn c hg hb q hq p hp => by
  change lp21 g q.1 = some p at hp
  change inl g = some fn at hg
  generalize hq1 : q.1 = b at hp
  unfold lp21 at hp
  split at hp
  · cases hp; exact lps_case (inl := inl) hg hb hq hq1 (by kernel_rfl) (by kernel_rfl) sndL7
  · cases hp⟩
theorem cal21 (g : Nat) : SoundA Try.prog g (evF cx21 keeps 3 g) := evF_sound (tabOk_of tab_ok) (cmpsOk_of tab_ok cmps_ok) mixed in21 hsp21 keeps 3 g
end Go.Proofs.Ytpahnadbknjepaa.Ex

/- What is run, level 21. -/
namespace Go.Proofs.Ytpahnadbknjepaa.Ex
open Go.Proofs Go.Proofs.Ytpahnadbknjepaa
set_option maxRecDepth 100000
theorem raw7 (l : List E) (st : List Int) : ev cx21 7 [aLE l, aLi st] =
  bif Decidable.decide ((↑l.length : Int) > 20) then Option.some (Go.Proofs.Ytpahnadbknjepaa.Ex.AV.bool Bool.true, { blks := [], c := 0 })
  else
    bif (↑l.length : Int) == 0 then Option.some (Go.Proofs.Ytpahnadbknjepaa.Ex.AV.bool Bool.true, { blks := [], c := 0 })
    else
      bif Go.Proofs.Ytpahnadbknjepaa.Ex.okLE l then
        bif !Go.Proofs.Ytpahnadbknjepaa.Ex.fitsB l then Option.some (Go.Proofs.Ytpahnadbknjepaa.Ex.AV.bool Bool.true, { blks := [], c := 0 })
        else
          bif Decidable.decide ((↑st.length : Int) > 10) then Option.some (Go.Proofs.Ytpahnadbknjepaa.Ex.AV.bool Bool.true, { blks := [], c := 0 })
          else
            Go.Proofs.Ytpahnadbknjepaa.Ex.optC l[Int.toNat 0]? Option.none fun d2 ↦
              bif 0 == 0 && Decidable.decide ((↑l.length : Int) ≤ 4611686018427387904) && Go.Proofs.Ytpahnadbknjepaa.Ex.allL7 st 0 l && Go.Proofs.Ytpahnadbknjepaa.Ex.okRE d2 then
                Sum.elim
                  (fun e3 ↦
                    bif 0 == 0 && Decidable.decide ((↑l.length : Int) ≤ 4611686018427387904) && Go.Proofs.Ytpahnadbknjepaa.Ex.allL7 st (Go.IntKind.i64.wrap (0 + 1)) l && Go.Proofs.Ytpahnadbknjepaa.Ex.okRE e3.fst then
                      Sum.elim
                        (fun e4 ↦
                          bif 0 == 0 && Decidable.decide ((↑l.length : Int) ≤ 4611686018427387904) && Go.Proofs.Ytpahnadbknjepaa.Ex.allL7 st (Go.IntKind.i64.wrap (Go.IntKind.i64.wrap (0 + 1) + 1)) l && Go.Proofs.Ytpahnadbknjepaa.Ex.okRE e4.fst then
                            Sum.elim (fun e5 ↦ bif e5.snd == 0 then Option.some (Go.Proofs.Ytpahnadbknjepaa.Ex.AV.bool Bool.true, { blks := [], c := 0 }) else Option.some (Go.Proofs.Ytpahnadbknjepaa.Ex.AV.bool Bool.false, { blks := [], c := 0 }))
                              (fun e5 ↦ Option.some (Go.Proofs.Ytpahnadbknjepaa.Ex.AV.bool Bool.false, { blks := [], c := 0 })) (Go.Proofs.Ytpahnadbknjepaa.Ex.vL7 st (Go.IntKind.i64.wrap (Go.IntKind.i64.wrap (0 + 1) + 1)) l e4)
                          else Option.none)
                        (fun e4 ↦ Option.some (Go.Proofs.Ytpahnadbknjepaa.Ex.AV.bool Bool.false, { blks := [], c := 0 })) (Go.Proofs.Ytpahnadbknjepaa.Ex.vL7 st (Go.IntKind.i64.wrap (0 + 1)) l e3)
                    else Option.none)
                  (fun e3 ↦ Option.some (Go.Proofs.Ytpahnadbknjepaa.Ex.AV.bool Bool.false, { blks := [], c := 0 })) (Go.Proofs.Ytpahnadbknjepaa.Ex.vL7 st 0 l (d2, 0))
              else Option.none
      else Option.none := by kernel_rfl
end Go.Proofs.Ytpahnadbknjepaa.Ex

/- EnvGrows, in plain Lean. -/
namespace Go.Proofs.Ytpahnadbknjepaa.Ex
open Go.Proofs Go.Proofs.Ytpahnadbknjepaa
set_option maxRecDepth 100000
set_option linter.unusedVariables false
set_option linter.unusedSimpArgs false
def gz (f x : E) : Prop := bitsOk x ∧ (x.1 = false ∨ goodE f x)
def gd (f x : E) : Prop := bitsOk x ∧ goodE f x
theorem gz_trans {f a b c : E} (ha : gz f a) (hb : gz f b) (hc : gz f c) (h : leqE a b = true) (k : leqE b c = true) : leqE a c = true := by
  rcases ha.2 with e | ga
  · exact off_leq e
  cases ea : a.1 with
  | false => exact off_leq ea
  | true =>
  have hbo : b.1 = true := by
    rw [leqE_iff] at h
    rcases h with h | h
    · rw [ea] at h; cases h
    · exact h.1
  have hco : c.1 = true := by
    rw [leqE_iff] at k
    rcases k with k | k
    · rw [hbo] at k; cases k
    · exact k.1
  have gb : goodE f b := hb.2.resolve_left (by rw [hbo]; simp)
  have gc : goodE f c := hc.2.resolve_left (by rw [hco]; simp)
  exact leqE_trans ga gb gc h k
theorem stepG {f x d : E} (st : List Int) (hx : gz f x) (hd : gd f d) : gz f (widE x d st) ∧ leqE x (widE x d st) = true ∧ leqE d (widE x d st) = true := by
  rw [wid2]
  cases ex : x.1 <;> cases ed : d.1
  · exact ⟨⟨bits_zz, .inl rfl⟩, off_leq ex, off_leq ed⟩
  · exact ⟨⟨hd.1, .inr hd.2⟩, off_leq ex, leqE_self hd.1⟩
  · exact ⟨hx, leqE_self hx.1, off_leq ed⟩
  · have gx : goodE f x := hx.2.resolve_left (by rw [ex]; simp)
    refine ⟨⟨wmerge_bits _ _ _, .inr (wmerge_good st gx hd.2)⟩, ?_, ?_⟩
    · exact leqE_trans gx (merge_good gx hd.2) (wmerge_good st gx hd.2) (merge_up1 hx.1) (merge_wmerge st gx hd.2)
    · exact leqE_trans hd.2 (merge_good gx hd.2) (wmerge_good st gx hd.2) (merge_up2 gx hd.2 hd.1) (merge_wmerge st gx hd.2)
theorem wid_stay {x y : I} (hx : isB x = true) (hy : isB y = true) (l : List Int) (h : leqB y x = true) : widV x y l = x := by
  cases ey : empB y with
  | true => unfold widV; rw [ey]; rfl
  | false =>
    have ly := le_of_emp ey
    rw [leq_iff] at h
    have ex : empB x = false := by unfold empB; exact decide_eq_false (by omega)
    have e2 : iJoin x y = (mn x.1 y.1, mx x.2 y.2) := by unfold iJoin; rw [ex, ey]; rfl
    have m1 : mn x.1 y.1 = x.1 := by unfold mn; split <;> omega
    have m2 : mx x.2 y.2 = x.2 := by unfold mx; split <;> omega
    unfold widV
    rw [ex, ey, e2, m1, m2]
    simp
theorem row_stay {a b : List I} (st : List Int) (hl : a.length = b.length) (ha : allB a) (hb : allB b) (h : belowB b a = true) : widR a b st = a := by
  rw [below_iff hl.symm] at h
  rw [widR_eq]
  apply List.ext_getElem?
  intro k
  rw [get_mapIx]
  cases hd : a[k]? with
  | none => rfl
  | some d =>
    have hlt := (List.getElem?_eq_some_iff.1 hd).1
    have hy : b[k]? = some (b[k]'(by omega)) := List.getElem?_eq_getElem _
    simp only [Option.map_some, Nat.zero_add]
    rw [atV_some hy, wid_stay (ha d (List.mem_of_getElem? hd)) (hb _ (List.getElem_mem _)) st (h k _ _ hy hd)]
theorem or_of_and {x y : BitVec 64} (h : y &&& x = y) : x ||| y = x := by
  apply BitVec.eq_of_getLsbD_eq
  intro i hi
  have := congrArg (fun z => z.getLsbD i) h
  simp only [BitVec.getLsbD_and, BitVec.getLsbD_or] at this ⊢
  cases hx : x.getLsbD i <;> cases hy : y.getLsbD i <;> simp_all
theorem eta6 (x : E) (h : x.1 = true) : x = (true, x.2.1, x.2.2.1, x.2.2.2.1, x.2.2.2.2.1, x.2.2.2.2.2) := by
  obtain ⟨a, b, c, d, e, f⟩ := x
  simp only at h
  subst h; rfl
theorem stay {f x d : E} (st : List Int) (hx : gz f x) (hd : gd f d) (h : leqE d x = true) : (widE x d st = x ∧ x.1 = true) ∨ (x.1 = false ∧ widE x d st = zz ∧ d.1 = false) := by
  rw [wid2]
  cases ex : x.1 with
  | false =>
    right
    cases ed : d.1 with
    | false => exact ⟨rfl, rfl, rfl⟩
    | true =>
      rw [leqE_iff] at h
      rcases h with h | h
      · rw [ed] at h; cases h
      · rw [ex] at h; cases h.1
  | true =>
    left
    refine ⟨?_, rfl⟩
    cases ed : d.1 with
    | false => rfl
    | true =>
      have gx : goodE f x := hx.2.resolve_left (by rw [ex]; simp)
      rw [leqE_iff] at h
      rcases h with h | ⟨_, h1, h2, h3, h4, h5⟩
      · rw [ed] at h; cases h
      · have e1 := row_stay st (gx.1.trans hd.2.1.symm) gx.2.2.2.1 hd.2.2.2.2.1 h1
        have e2 := row_stay st (gx.2.1.trans hd.2.2.1.symm) gx.2.2.2.2.1 hd.2.2.2.2.2.1 h2
        have e3 := row_stay st (gx.2.2.1.trans hd.2.2.2.1.symm) gx.2.2.2.2.2 hd.2.2.2.2.2.2 h3
        have e4 : andV x.2.2.2.2.1 d.2.2.2.2.1 = x.2.2.2.2.1 := by simpa [withinB] using h4
        have e5 : orV x.2.2.2.2.2 d.2.2.2.2.2 = x.2.2.2.2.2 := by
          have k := (within_bits h5).1
          show IntKind.i64.wrap ((BitVec.ofInt 64 x.2.2.2.2.2 ||| BitVec.ofInt 64 d.2.2.2.2.2).toNat : Int) = _
          rw [or_of_and k]
          exact hx.1.2
        show wmergeE x d st = x
        unfold wmergeE
        rw [e1, e2, e3, e4, e5]
        exact (eta6 x ex).symm
theorem same_off {a b : E} (ha : a.1 = false) (hb : b.1 = false) : sameE a b = true := by unfold sameE; rw [ha, hb]; rfl
theorem sameE_self' (a : E) : sameE a a = true := by
  unfold sameE
  rw [eqRows_self, eqRows_self, eqRows_self]
  cases a.1 <;> simp
def stp (st : List Int) (k : Int) : Nat → E × Int → E → (E × Int) ⊕ (Nat × E × Int) := fun i s d => stepL7 st k i s.1 s.2 d
theorem vL7_run (st : List Int) (k : Int) (l : List E) (s : E × Int) : vL7 st k l s = runS (stp st k) 0 l s := rfl
theorem pass1 {f : E} (st : List Int) {k : Int} (hk : (k == 2) = false) : ∀ (r : List E) (i : Nat) (x : E) (g : Int), (∀ d ∈ r, gd f d) → gz f x →
    ∃ x', runS (stp st k) i r (x, g) = .inl (x', g) ∧ gz f x' ∧ leqE x x' = true ∧ ∀ d ∈ r, leqE d x' = true
  | [], i, x, g, _, hx => ⟨x, rfl, hx, leqE_self hx.1, fun d hd => nomatch hd⟩
  | d :: r, i, x, g, hr, hx => by
    have hd := hr d List.mem_cons_self
    obtain ⟨s1, s2, s3⟩ := stepG st hx hd
    have e : stp st k i (x, g) d = .inl (widE x d st, g) := by
      show stepL7 st k i x g d = _
      unfold stepL7
      rw [s2, s3, hk]; rfl
    obtain ⟨x', k1, k2, k3, k4⟩ := pass1 st hk r (i + 1) (widE x d st) g (fun d h => hr d (List.mem_cons_of_mem _ h)) s1
    refine ⟨x', by rw [runS, e]; exact k1, k2, gz_trans hx s1 k2 s2 k3, fun d' h => ?_⟩
    rcases List.mem_cons.1 h with rfl | h
    · exact gz_trans ⟨hd.1, .inr hd.2⟩ s1 k2 s3 k3
    · exact k4 d' h
theorem pass2 {f : E} (st : List Int) (k : Int) (l : List E) (hl : ∀ d ∈ l, gd f d) : ∀ (r : List E) (i : Nat) (x : E) (g : Int), (∀ d ∈ r, d ∈ l) → gz f x → (∀ d ∈ l, leqE d x = true) →
    ∃ x', runS (stp st k) i r (x, g) = .inl (x', g) ∧ gz f x' ∧ ∀ d ∈ l, leqE d x' = true
  | [], i, x, g, _, hx, hq => ⟨x, rfl, hx, hq⟩
  | d :: r, i, x, g, hr, hx, hq => by
    have hdl := hr d List.mem_cons_self
    have hd := hl d hdl
    obtain ⟨s1, s2, s3⟩ := stepG st hx hd
    have hs : sameE x (widE x d st) = true ∧ ∀ d' ∈ l, leqE d' (widE x d st) = true := by
      rcases stay st hx hd (hq d hdl) with ⟨e, _⟩ | ⟨e1, e2, e3⟩
      · rw [e]; exact ⟨sameE_self' x, hq⟩
      · rw [e2]
        refine ⟨same_off e1 rfl, fun d' h' => ?_⟩
        have := hq d' h'
        rw [leqE_iff] at this
        rcases this with k | k
        · exact off_leq k
        · rw [e1] at k; cases k.1
    have e : stp st k i (x, g) d = .inl (widE x d st, g) := by
      show stepL7 st k i x g d = _
      unfold stepL7
      rw [s2, s3, hs.1]
      simp
    obtain ⟨x', k1, k2, k3⟩ := pass2 st k l hl r (i + 1) (widE x d st) g (fun d h => hr d (List.mem_cons_of_mem _ h)) s1 hs.2
    exact ⟨x', by rw [runS, e]; exact k1, k2, k3⟩
theorem okRE_gz {f x : E} (hf : f.2.1.length ≤ 120 ∧ f.2.2.1.length ≤ 120 ∧ f.2.2.2.1.length ≤ 120) (h : gz f x ∨ x = zz) (hx : okRE x = true ∨ goodE f x) : okRE x = true := by
  rcases hx with h | ⟨h1, h2, h3, _⟩
  · exact h
  · exact okRE_of (by omega)
theorem okRE_run {st : List Int} {k : Int} : ∀ (r : List E) (i : Nat) (s s' : E × Int), (∀ d ∈ r, okRE d = true) → okRE s.1 = true → runS (stp st k) i r s = .inl s' → okRE s'.1 = true
  | [], i, s, s', _, hs, e => by cases e; exact hs
  | d :: r, i, s, s', hr, hs, e => by
    rw [runS] at e
    cases e1 : stp st k i s d with
    | inr x => rw [e1] at e; cases e
    | inl s1 =>
      rw [e1] at e
      refine okRE_run r (i + 1) s1 s' (fun d h => hr d (List.mem_cons_of_mem _ h)) ?_ e
      have e1 : stepL7 st k i s.1 s.2 d = .inl s1 := e1
      unfold stepL7 at e1
      split at e1
      · cases e1; exact okRE_wid st hs (hr d List.mem_cons_self)
      · cases e1
def T7 (l : List E) (st : List Int) (K1 K2 : Int) : Option (AV × Hp) :=
  bif Decidable.decide ((↑l.length : Int) > 20) then Option.some (Go.Proofs.Ytpahnadbknjepaa.Ex.AV.bool Bool.true, { blks := [], c := 0 })
  else
    bif (↑l.length : Int) == 0 then Option.some (Go.Proofs.Ytpahnadbknjepaa.Ex.AV.bool Bool.true, { blks := [], c := 0 })
    else
      bif Go.Proofs.Ytpahnadbknjepaa.Ex.okLE l then
        bif !Go.Proofs.Ytpahnadbknjepaa.Ex.fitsB l then Option.some (Go.Proofs.Ytpahnadbknjepaa.Ex.AV.bool Bool.true, { blks := [], c := 0 })
        else
          bif Decidable.decide ((↑st.length : Int) > 10) then Option.some (Go.Proofs.Ytpahnadbknjepaa.Ex.AV.bool Bool.true, { blks := [], c := 0 })
          else
            Go.Proofs.Ytpahnadbknjepaa.Ex.optC l[Int.toNat 0]? Option.none fun d2 ↦
              bif 0 == 0 && Decidable.decide ((↑l.length : Int) ≤ 4611686018427387904) && Go.Proofs.Ytpahnadbknjepaa.Ex.allL7 st 0 l && Go.Proofs.Ytpahnadbknjepaa.Ex.okRE d2 then
                Sum.elim
                  (fun e3 ↦
                    bif 0 == 0 && Decidable.decide ((↑l.length : Int) ≤ 4611686018427387904) && Go.Proofs.Ytpahnadbknjepaa.Ex.allL7 st K1 l && Go.Proofs.Ytpahnadbknjepaa.Ex.okRE e3.fst then
                      Sum.elim
                        (fun e4 ↦
                          bif 0 == 0 && Decidable.decide ((↑l.length : Int) ≤ 4611686018427387904) && Go.Proofs.Ytpahnadbknjepaa.Ex.allL7 st K2 l && Go.Proofs.Ytpahnadbknjepaa.Ex.okRE e4.fst then
                            Sum.elim (fun e5 ↦ bif e5.snd == 0 then Option.some (Go.Proofs.Ytpahnadbknjepaa.Ex.AV.bool Bool.true, { blks := [], c := 0 }) else Option.some (Go.Proofs.Ytpahnadbknjepaa.Ex.AV.bool Bool.false, { blks := [], c := 0 }))
                              (fun e5 ↦ Option.some (Go.Proofs.Ytpahnadbknjepaa.Ex.AV.bool Bool.false, { blks := [], c := 0 })) (Go.Proofs.Ytpahnadbknjepaa.Ex.vL7 st K2 l e4)
                          else Option.none)
                        (fun e4 ↦ Option.some (Go.Proofs.Ytpahnadbknjepaa.Ex.AV.bool Bool.false, { blks := [], c := 0 })) (Go.Proofs.Ytpahnadbknjepaa.Ex.vL7 st K1 l e3)
                    else Option.none)
                  (fun e3 ↦ Option.some (Go.Proofs.Ytpahnadbknjepaa.Ex.AV.bool Bool.false, { blks := [], c := 0 })) (Go.Proofs.Ytpahnadbknjepaa.Ex.vL7 st 0 l (d2, 0))
              else Option.none
      else Option.none
theorem main7 (l : List E) (st : List Int) (K1 K2 : Int) (hl : ∀ e ∈ l, lenE e = true) : T7 l st K1 K2 = outV (.bool true) := by
  unfold T7
  by_cases h0 : (l.length : Int) > 20
  · simp [h0, outV]
  have hlen : decide ((l.length : Int) ≤ 4611686018427387904) = true := decide_eq_true (by omega)
  have o0 : okLE l = true := by
    unfold okLE
    rw [Bool.and_eq_true]
    exact ⟨hlen, List.all_eq_true.2 hl⟩
  cases h1 : ((l.length : Int) == 0) with
  | true => rw [decide_eq_false h0]; rfl
  | false =>
  rw [decide_eq_false h0, o0]
  cases hf : fitsB l with
  | false => rfl
  | true =>
  have hne : 0 < l.length := by rw [beq_eq_false_iff_ne] at h1; omega
  obtain ⟨f, hget⟩ : ∃ f, l[0]? = some f := ⟨l[0], List.getElem?_eq_getElem hne⟩
  have hfm : f ∈ l := List.mem_of_getElem? hget
  have hfit : ∀ d ∈ l, fitE f d = true := by
    unfold fitsB at hf
    rw [hget] at hf
    exact List.all_eq_true.1 hf
  by_cases h2 : (st.length : Int) > 10
  · simp [h2, outV]
  have os : okLen st = true := by unfold okLen; simp; omega
  have hg : ∀ d ∈ l, gd f d := fun d hd => ⟨fit_bits (hfit d hd), fit_good (hfit d hd)⟩
  have hre : ∀ d ∈ l, okRE d = true := fun d hd => okRE_of (good_lens (hfit d hd))
  have ha : ∀ k : Int, allL7 st k l = true := fun k => List.all_eq_true.2 fun d hd => by rw [hre d hd, os]; rfl
  have hf0 : gz f f := ⟨(hg f hfm).1, .inr (hg f hfm).2⟩
  obtain ⟨x1, a1, a2, a3, a4⟩ := pass1 (f := f) st (k := 0) rfl l 0 f 0 hg hf0
  obtain ⟨x2, b1, b2, b3⟩ := pass2 (f := f) st K1 l hg l 0 x1 0 (fun _ h => h) a2 a4
  obtain ⟨x3, c1, c2, c3⟩ := pass2 (f := f) st K2 l hg l 0 x2 0 (fun _ h => h) b2 b3
  have r1 : okRE x1 = true := okRE_run l 0 (f, 0) (x1, 0) hre (hre f hfm) a1
  have r2 : okRE x2 = true := okRE_run l 0 (x1, 0) (x2, 0) hre r1 b1
  have hget' : l[Int.toNat 0]? = some f := hget
  rw [hget', decide_eq_false h2]
  simp only [Bool.not_true, cond_false, cond_true, optC]
  rw [ha, ha, ha, hlen, hre f hfm]
  simp only [beq_self_eq_true, Bool.and_self, Bool.true_and, Bool.and_true, cond_true]
  rw [vL7_run st 0, a1]
  simp only [Sum.elim_inl]
  rw [r1]
  simp only [Bool.and_self, cond_true]
  rw [vL7_run st K1, b1]
  simp only [Sum.elim_inl]
  rw [r2]
  simp only [Bool.and_self, cond_true]
  rw [vL7_run st K2, c1]
  simp only [Sum.elim_inl, beq_self_eq_true, cond_true]
  rfl
theorem ok7' (l : List E) (st : List Int) (hl : ∀ e ∈ l, lenE e = true) : ev cx21 7 [aLE l, aLi st] = outV (.bool true) := (raw7 l st).trans (main7 l st _ _ hl)
end Go.Proofs.Ytpahnadbknjepaa.Ex

