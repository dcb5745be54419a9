/- A part of the proofs of the laws of environments: XJ. -/
import Derived.Test.YtpahnadbknjepaaXI
import Derived.Test.YtpahnadbknjepaaXD
import Derived.Test.YtpahnadbknjepaaXH
import Derived.Test.YtpahnadbknjepaaXC
/- Loops J: where each round begins. -/
namespace Go.Proofs.Ytpahnadbknjepaa.Ex
open Go.Proofs Go.Proofs.Ytpahnadbknjepaa
set_option maxRecDepth 100000
set_option linter.unusedVariables false
set_option linter.unusedSimpArgs false
def spJ : Nat → Option (List AV → Prog AV)
  | 46 => some (specP true M46)
  | 55 => some (specP true M55)
  | 45 => some (specP true M45)
  | 37 => some (specP true M37)
  | 38 => some (specP true M38)
  | 31 => some (specP true M31)
  | 36 => some (specP true M36)
  | 43 => some (specP true M43)
  | 44 => some (specP true M44)
  | 50 => some (specP true M50)
  | 54 => some (specP true M54)
  | 20 => some (specP true M20)
  | 39 => some (specP true M39)
  | 26 => some (specP true M26)
  | 52 => some (specP true M52)
  | 51 => some (specP true M51)
  | 40 => some (specP true M40)
  | 29 => some (specP true M29)
  | 42 => some (specP true M42j)
  | 21 => some (specP true M21)
  | 24 => some (specP true M24j)
  | 9 => some (specP true M9)
  | 41 => some (cloneP 16 tI)
  | 23 => some (specP true M23)
  | _ => none
noncomputable def cxJ : Ctx := { tab := tab, spec := spJ, inl := inl, lps := fun _ _ => none, fuel := 10 }
theorem hspJ : ∀ g p, cxJ.spec g = some p → SoundA Try.prog g p := by
  intro g p h
  change spJ g = some p at h
  unfold spJ at h
  split at h
  · cases h; exact snd46
  · cases h; exact snd55
  · cases h; exact snd45
  · cases h; exact snd37
  · cases h; exact snd38
  · cases h; exact snd31
  · cases h; exact snd36
  · cases h; exact snd43
  · cases h; exact snd44
  · cases h; exact snd50
  · cases h; exact snd54
  · cases h; exact snd20
  · cases h; exact snd39
  · cases h; exact snd26
  · cases h; exact snd52
  · cases h; exact snd51
  · cases h; exact snd40
  · cases h; exact snd29
  · cases h; exact snd42
  · cases h; exact snd21
  · cases h; exact snd24
  · cases h; exact snd9
  · cases h; exact sndClone
  · cases h; exact snd23
  · cases h
theorem inJ : InlOk Try.prog cxJ := ⟨inl_ok, fun _ _ _ _ _ _ _ _ h => nomatch h⟩
theorem calJ : CalOk Try.prog (evF cxJ keeps 3) := fun g => evF_sound (tabOk_of tab_ok) (cmpsOk_of tab_ok cmps_ok) mixed inJ hspJ keeps 3 g
def mapIx (f : Nat → I → I) : Nat → List I → List I
  | _, [] => []
  | i, d :: r => f i d :: mapIx f (i + 1) r
theorem foldIx_app (f : Nat → I → I) : ∀ (l : List I) (i : Nat) (o : List I), foldIx (fun i o d => o ++ [f i d]) i l o = o ++ mapIx f i l
  | [], i, o => by simp [foldIx, mapIx]
  | d :: r, i, o => by rw [foldIx, foldIx_app f r, mapIx]; simp
theorem mapIx_len (f : Nat → I → I) : ∀ (l : List I) (i : Nat), (mapIx f i l).length = l.length
  | [], _ => rfl
  | d :: r, i => by rw [mapIx, List.length_cons, List.length_cons, mapIx_len f r]
theorem joinR_eq (a b : List I) : joinR a b = mapIx (fun i d => iJoin d (atV b (i : Nat))) 0 a := by unfold joinR; rw [foldIx_app]; rfl
theorem rjoinR_eq (a b : List I) : rjoinR a b = mapIx (fun i d => rJoin d (atV b (i : Nat))) 0 a := by unfold rjoinR; rw [foldIx_app]; rfl
theorem okR_join (a b : List I) : okR (joinR a b) = okR a := by unfold okR; rw [joinR_eq, mapIx_len]
def joinE (o d : E) : E := bif !d.1 then o else bif !o.1 then d else mergeE o d
theorem okRE_join {o d : E} (ho : okRE o = true) (hd : okRE d = true) : okRE (joinE o d) = true := by
  unfold joinE
  cases d.1
  · exact ho
  · cases o.1
    · exact hd
    · simp only [Bool.not_true, cond_false]
      unfold mergeE okRE
      simp only [okR_join]
      exact ho
def unEs : List (Nat × Ty) := [(1, tI), (2, tI), (3, tI)]
def keepL11 : List Nat := [9, 8, 7, 3, 2]
noncomputable def FL11 (base : Nat) : Tm → Prog (Nat × Tm) := evC cxJ (evF cxJ keeps 3) ⟨11, 28, keeps 11, base⟩ 0 (bodyX 11 0)
def TL11 (i : Int) (n : Int) (l : List E) : Tm := [(9, .int .i64 i), (8, .int .i64 n), (7, .sl (.st (.pair .bool (.pair (.sl (.st (.pair (.int .i64) (.int .i64)))) (.pair (.sl (.st (.pair (.int .i64) (.int .i64)))) (.pair (.sl (.st (.pair (.int .i64) (.int .i64)))) (.pair (.int .i64) (.int .i64))))))) l), (3, .ptr 0 0), (2, .ptr 1 0)]
def HL11 (o : E) (r : E) : Hp := ⟨[(0, .box [.bool o.1, .sl tI o.2.1, .sl tI o.2.2.1, .sl tI o.2.2.2.1, .int .i64 o.2.2.2.2.1, .int .i64 o.2.2.2.2.2]), (1, .box [.bool r.1, .sl tI r.2.1, .sl tI r.2.2.1, .sl tI r.2.2.2.1, .int .i64 r.2.2.2.2.1, .int .i64 r.2.2.2.2.2])], 2⟩
end Go.Proofs.Ytpahnadbknjepaa.Ex

/- Loops J: each round. -/
namespace Go.Proofs.Ytpahnadbknjepaa.Ex
open Go.Proofs Go.Proofs.Ytpahnadbknjepaa
set_option maxRecDepth 100000
set_option linter.unusedVariables false
set_option linter.unusedSimpArgs false
theorem rnd11 {R : Type} (i : Int) (n : Int) (l : List E) (o : E) (r : E) (K : Nat → Tm → Hp → Option R) : round 0 keepL11 (FL11 0) (TL11 i n l) (HL11 o r) K =
  bif Decidable.decide (i < n) then
    bif Decidable.decide (0 ≤ i) then
      Go.Proofs.Ytpahnadbknjepaa.Ex.optC l[i.toNat]? Option.none fun d7 ↦
        bif !d7.fst then
          K 0
            [(9, Go.Proofs.Ytpahnadbknjepaa.Ex.AV.int Go.IntKind.i64 (Go.IntKind.i64.wrap (i + 1))), (8, Go.Proofs.Ytpahnadbknjepaa.Ex.AV.int Go.IntKind.i64 n),
              (7,
                Go.Proofs.Ytpahnadbknjepaa.Ex.AV.sl
                  (Go.Proofs.Ytpahnadbknjepaa.Ex.Ty.bool.pair
                      (((Go.Proofs.Ytpahnadbknjepaa.Ex.Ty.int Go.IntKind.i64).pair (Go.Proofs.Ytpahnadbknjepaa.Ex.Ty.int Go.IntKind.i64)).st.sl.pair
                        (((Go.Proofs.Ytpahnadbknjepaa.Ex.Ty.int Go.IntKind.i64).pair (Go.Proofs.Ytpahnadbknjepaa.Ex.Ty.int Go.IntKind.i64)).st.sl.pair
                          (((Go.Proofs.Ytpahnadbknjepaa.Ex.Ty.int Go.IntKind.i64).pair (Go.Proofs.Ytpahnadbknjepaa.Ex.Ty.int Go.IntKind.i64)).st.sl.pair ((Go.Proofs.Ytpahnadbknjepaa.Ex.Ty.int Go.IntKind.i64).pair (Go.Proofs.Ytpahnadbknjepaa.Ex.Ty.int Go.IntKind.i64)))))).st
                  l),
              (3, Go.Proofs.Ytpahnadbknjepaa.Ex.AV.ptr 0 0), (2, Go.Proofs.Ytpahnadbknjepaa.Ex.AV.ptr 1 0)]
            {
              blks :=
                [(0,
                    Go.Proofs.Ytpahnadbknjepaa.Ex.Blk.box
                      [Go.Proofs.Ytpahnadbknjepaa.Ex.AV.bool o.fst, Go.Proofs.Ytpahnadbknjepaa.Ex.AV.sl ((Go.Proofs.Ytpahnadbknjepaa.Ex.Ty.int Go.IntKind.i64).pair (Go.Proofs.Ytpahnadbknjepaa.Ex.Ty.int Go.IntKind.i64)).st o.snd.fst,
                        Go.Proofs.Ytpahnadbknjepaa.Ex.AV.sl ((Go.Proofs.Ytpahnadbknjepaa.Ex.Ty.int Go.IntKind.i64).pair (Go.Proofs.Ytpahnadbknjepaa.Ex.Ty.int Go.IntKind.i64)).st o.snd.snd.fst,
                        Go.Proofs.Ytpahnadbknjepaa.Ex.AV.sl ((Go.Proofs.Ytpahnadbknjepaa.Ex.Ty.int Go.IntKind.i64).pair (Go.Proofs.Ytpahnadbknjepaa.Ex.Ty.int Go.IntKind.i64)).st o.snd.snd.snd.fst, Go.Proofs.Ytpahnadbknjepaa.Ex.AV.int Go.IntKind.i64 o.snd.snd.snd.snd.fst,
                        Go.Proofs.Ytpahnadbknjepaa.Ex.AV.int Go.IntKind.i64 o.snd.snd.snd.snd.snd]),
                  (1,
                    Go.Proofs.Ytpahnadbknjepaa.Ex.Blk.box
                      [Go.Proofs.Ytpahnadbknjepaa.Ex.AV.bool r.fst, Go.Proofs.Ytpahnadbknjepaa.Ex.AV.sl ((Go.Proofs.Ytpahnadbknjepaa.Ex.Ty.int Go.IntKind.i64).pair (Go.Proofs.Ytpahnadbknjepaa.Ex.Ty.int Go.IntKind.i64)).st r.snd.fst,
                        Go.Proofs.Ytpahnadbknjepaa.Ex.AV.sl ((Go.Proofs.Ytpahnadbknjepaa.Ex.Ty.int Go.IntKind.i64).pair (Go.Proofs.Ytpahnadbknjepaa.Ex.Ty.int Go.IntKind.i64)).st r.snd.snd.fst,
                        Go.Proofs.Ytpahnadbknjepaa.Ex.AV.sl ((Go.Proofs.Ytpahnadbknjepaa.Ex.Ty.int Go.IntKind.i64).pair (Go.Proofs.Ytpahnadbknjepaa.Ex.Ty.int Go.IntKind.i64)).st r.snd.snd.snd.fst, Go.Proofs.Ytpahnadbknjepaa.Ex.AV.int Go.IntKind.i64 r.snd.snd.snd.snd.fst,
                        Go.Proofs.Ytpahnadbknjepaa.Ex.AV.int Go.IntKind.i64 r.snd.snd.snd.snd.snd])],
              c := 2 }
        else
          bif !o.fst then
            bif Go.Proofs.Ytpahnadbknjepaa.Ex.okRE d7 then
              K 0
                [(9, Go.Proofs.Ytpahnadbknjepaa.Ex.AV.int Go.IntKind.i64 (Go.IntKind.i64.wrap (i + 1))), (8, Go.Proofs.Ytpahnadbknjepaa.Ex.AV.int Go.IntKind.i64 n),
                  (7,
                    Go.Proofs.Ytpahnadbknjepaa.Ex.AV.sl
                      (Go.Proofs.Ytpahnadbknjepaa.Ex.Ty.bool.pair
                          (((Go.Proofs.Ytpahnadbknjepaa.Ex.Ty.int Go.IntKind.i64).pair (Go.Proofs.Ytpahnadbknjepaa.Ex.Ty.int Go.IntKind.i64)).st.sl.pair
                            (((Go.Proofs.Ytpahnadbknjepaa.Ex.Ty.int Go.IntKind.i64).pair (Go.Proofs.Ytpahnadbknjepaa.Ex.Ty.int Go.IntKind.i64)).st.sl.pair
                              (((Go.Proofs.Ytpahnadbknjepaa.Ex.Ty.int Go.IntKind.i64).pair (Go.Proofs.Ytpahnadbknjepaa.Ex.Ty.int Go.IntKind.i64)).st.sl.pair ((Go.Proofs.Ytpahnadbknjepaa.Ex.Ty.int Go.IntKind.i64).pair (Go.Proofs.Ytpahnadbknjepaa.Ex.Ty.int Go.IntKind.i64)))))).st
                      l),
                  (3, Go.Proofs.Ytpahnadbknjepaa.Ex.AV.ptr 0 0), (2, Go.Proofs.Ytpahnadbknjepaa.Ex.AV.ptr 1 0)]
                {
                  blks :=
                    [(0,
                        Go.Proofs.Ytpahnadbknjepaa.Ex.Blk.box
                          [Go.Proofs.Ytpahnadbknjepaa.Ex.AV.bool d7.fst, Go.Proofs.Ytpahnadbknjepaa.Ex.AV.sl ((Go.Proofs.Ytpahnadbknjepaa.Ex.Ty.int Go.IntKind.i64).pair (Go.Proofs.Ytpahnadbknjepaa.Ex.Ty.int Go.IntKind.i64)).st d7.snd.fst,
                            Go.Proofs.Ytpahnadbknjepaa.Ex.AV.sl ((Go.Proofs.Ytpahnadbknjepaa.Ex.Ty.int Go.IntKind.i64).pair (Go.Proofs.Ytpahnadbknjepaa.Ex.Ty.int Go.IntKind.i64)).st d7.snd.snd.fst,
                            Go.Proofs.Ytpahnadbknjepaa.Ex.AV.sl ((Go.Proofs.Ytpahnadbknjepaa.Ex.Ty.int Go.IntKind.i64).pair (Go.Proofs.Ytpahnadbknjepaa.Ex.Ty.int Go.IntKind.i64)).st d7.snd.snd.snd.fst, Go.Proofs.Ytpahnadbknjepaa.Ex.AV.int Go.IntKind.i64 d7.snd.snd.snd.snd.fst,
                            Go.Proofs.Ytpahnadbknjepaa.Ex.AV.int Go.IntKind.i64 d7.snd.snd.snd.snd.snd]),
                      (1,
                        Go.Proofs.Ytpahnadbknjepaa.Ex.Blk.box
                          [Go.Proofs.Ytpahnadbknjepaa.Ex.AV.bool r.fst, Go.Proofs.Ytpahnadbknjepaa.Ex.AV.sl ((Go.Proofs.Ytpahnadbknjepaa.Ex.Ty.int Go.IntKind.i64).pair (Go.Proofs.Ytpahnadbknjepaa.Ex.Ty.int Go.IntKind.i64)).st r.snd.fst,
                            Go.Proofs.Ytpahnadbknjepaa.Ex.AV.sl ((Go.Proofs.Ytpahnadbknjepaa.Ex.Ty.int Go.IntKind.i64).pair (Go.Proofs.Ytpahnadbknjepaa.Ex.Ty.int Go.IntKind.i64)).st r.snd.snd.fst,
                            Go.Proofs.Ytpahnadbknjepaa.Ex.AV.sl ((Go.Proofs.Ytpahnadbknjepaa.Ex.Ty.int Go.IntKind.i64).pair (Go.Proofs.Ytpahnadbknjepaa.Ex.Ty.int Go.IntKind.i64)).st r.snd.snd.snd.fst, Go.Proofs.Ytpahnadbknjepaa.Ex.AV.int Go.IntKind.i64 r.snd.snd.snd.snd.fst,
                            Go.Proofs.Ytpahnadbknjepaa.Ex.AV.int Go.IntKind.i64 r.snd.snd.snd.snd.snd])],
                  c := 2 }
            else Option.none
          else
            bif Go.Proofs.Ytpahnadbknjepaa.Ex.okRE o then
              K 0
                [(9, Go.Proofs.Ytpahnadbknjepaa.Ex.AV.int Go.IntKind.i64 (Go.IntKind.i64.wrap (i + 1))), (8, Go.Proofs.Ytpahnadbknjepaa.Ex.AV.int Go.IntKind.i64 n),
                  (7,
                    Go.Proofs.Ytpahnadbknjepaa.Ex.AV.sl
                      (Go.Proofs.Ytpahnadbknjepaa.Ex.Ty.bool.pair
                          (((Go.Proofs.Ytpahnadbknjepaa.Ex.Ty.int Go.IntKind.i64).pair (Go.Proofs.Ytpahnadbknjepaa.Ex.Ty.int Go.IntKind.i64)).st.sl.pair
                            (((Go.Proofs.Ytpahnadbknjepaa.Ex.Ty.int Go.IntKind.i64).pair (Go.Proofs.Ytpahnadbknjepaa.Ex.Ty.int Go.IntKind.i64)).st.sl.pair
                              (((Go.Proofs.Ytpahnadbknjepaa.Ex.Ty.int Go.IntKind.i64).pair (Go.Proofs.Ytpahnadbknjepaa.Ex.Ty.int Go.IntKind.i64)).st.sl.pair ((Go.Proofs.Ytpahnadbknjepaa.Ex.Ty.int Go.IntKind.i64).pair (Go.Proofs.Ytpahnadbknjepaa.Ex.Ty.int Go.IntKind.i64)))))).st
                      l),
                  (3, Go.Proofs.Ytpahnadbknjepaa.Ex.AV.ptr 0 0), (2, Go.Proofs.Ytpahnadbknjepaa.Ex.AV.ptr 1 0)]
                {
                  blks :=
                    [(0,
                        Go.Proofs.Ytpahnadbknjepaa.Ex.Blk.box
                          [Go.Proofs.Ytpahnadbknjepaa.Ex.AV.bool (Go.Proofs.Ytpahnadbknjepaa.Ex.mergeE o d7).fst, Go.Proofs.Ytpahnadbknjepaa.Ex.AV.sl ((Go.Proofs.Ytpahnadbknjepaa.Ex.Ty.int Go.IntKind.i64).pair (Go.Proofs.Ytpahnadbknjepaa.Ex.Ty.int Go.IntKind.i64)).st (Go.Proofs.Ytpahnadbknjepaa.Ex.mergeE o d7).snd.fst,
                            Go.Proofs.Ytpahnadbknjepaa.Ex.AV.sl ((Go.Proofs.Ytpahnadbknjepaa.Ex.Ty.int Go.IntKind.i64).pair (Go.Proofs.Ytpahnadbknjepaa.Ex.Ty.int Go.IntKind.i64)).st (Go.Proofs.Ytpahnadbknjepaa.Ex.mergeE o d7).snd.snd.fst,
                            Go.Proofs.Ytpahnadbknjepaa.Ex.AV.sl ((Go.Proofs.Ytpahnadbknjepaa.Ex.Ty.int Go.IntKind.i64).pair (Go.Proofs.Ytpahnadbknjepaa.Ex.Ty.int Go.IntKind.i64)).st (Go.Proofs.Ytpahnadbknjepaa.Ex.mergeE o d7).snd.snd.snd.fst,
                            Go.Proofs.Ytpahnadbknjepaa.Ex.AV.int Go.IntKind.i64 (Go.Proofs.Ytpahnadbknjepaa.Ex.mergeE o d7).snd.snd.snd.snd.fst, Go.Proofs.Ytpahnadbknjepaa.Ex.AV.int Go.IntKind.i64 (Go.Proofs.Ytpahnadbknjepaa.Ex.mergeE o d7).snd.snd.snd.snd.snd]),
                      (1,
                        Go.Proofs.Ytpahnadbknjepaa.Ex.Blk.box
                          [Go.Proofs.Ytpahnadbknjepaa.Ex.AV.bool r.fst, Go.Proofs.Ytpahnadbknjepaa.Ex.AV.sl ((Go.Proofs.Ytpahnadbknjepaa.Ex.Ty.int Go.IntKind.i64).pair (Go.Proofs.Ytpahnadbknjepaa.Ex.Ty.int Go.IntKind.i64)).st r.snd.fst,
                            Go.Proofs.Ytpahnadbknjepaa.Ex.AV.sl ((Go.Proofs.Ytpahnadbknjepaa.Ex.Ty.int Go.IntKind.i64).pair (Go.Proofs.Ytpahnadbknjepaa.Ex.Ty.int Go.IntKind.i64)).st r.snd.snd.fst,
                            Go.Proofs.Ytpahnadbknjepaa.Ex.AV.sl ((Go.Proofs.Ytpahnadbknjepaa.Ex.Ty.int Go.IntKind.i64).pair (Go.Proofs.Ytpahnadbknjepaa.Ex.Ty.int Go.IntKind.i64)).st r.snd.snd.snd.fst, Go.Proofs.Ytpahnadbknjepaa.Ex.AV.int Go.IntKind.i64 r.snd.snd.snd.snd.fst,
                            Go.Proofs.Ytpahnadbknjepaa.Ex.AV.int Go.IntKind.i64 r.snd.snd.snd.snd.snd])],
                  c := 2 }
            else Option.none
    else Option.none
  else
    K 2
      [(9, Go.Proofs.Ytpahnadbknjepaa.Ex.AV.int Go.IntKind.i64 i), (8, Go.Proofs.Ytpahnadbknjepaa.Ex.AV.int Go.IntKind.i64 n),
        (7,
          Go.Proofs.Ytpahnadbknjepaa.Ex.AV.sl
            (Go.Proofs.Ytpahnadbknjepaa.Ex.Ty.bool.pair
                (((Go.Proofs.Ytpahnadbknjepaa.Ex.Ty.int Go.IntKind.i64).pair (Go.Proofs.Ytpahnadbknjepaa.Ex.Ty.int Go.IntKind.i64)).st.sl.pair
                  (((Go.Proofs.Ytpahnadbknjepaa.Ex.Ty.int Go.IntKind.i64).pair (Go.Proofs.Ytpahnadbknjepaa.Ex.Ty.int Go.IntKind.i64)).st.sl.pair
                    (((Go.Proofs.Ytpahnadbknjepaa.Ex.Ty.int Go.IntKind.i64).pair (Go.Proofs.Ytpahnadbknjepaa.Ex.Ty.int Go.IntKind.i64)).st.sl.pair ((Go.Proofs.Ytpahnadbknjepaa.Ex.Ty.int Go.IntKind.i64).pair (Go.Proofs.Ytpahnadbknjepaa.Ex.Ty.int Go.IntKind.i64)))))).st
            l),
        (3, Go.Proofs.Ytpahnadbknjepaa.Ex.AV.ptr 0 0), (2, Go.Proofs.Ytpahnadbknjepaa.Ex.AV.ptr 1 0)]
      {
        blks :=
          [(0,
              Go.Proofs.Ytpahnadbknjepaa.Ex.Blk.box
                [Go.Proofs.Ytpahnadbknjepaa.Ex.AV.bool o.fst, Go.Proofs.Ytpahnadbknjepaa.Ex.AV.sl ((Go.Proofs.Ytpahnadbknjepaa.Ex.Ty.int Go.IntKind.i64).pair (Go.Proofs.Ytpahnadbknjepaa.Ex.Ty.int Go.IntKind.i64)).st o.snd.fst,
                  Go.Proofs.Ytpahnadbknjepaa.Ex.AV.sl ((Go.Proofs.Ytpahnadbknjepaa.Ex.Ty.int Go.IntKind.i64).pair (Go.Proofs.Ytpahnadbknjepaa.Ex.Ty.int Go.IntKind.i64)).st o.snd.snd.fst,
                  Go.Proofs.Ytpahnadbknjepaa.Ex.AV.sl ((Go.Proofs.Ytpahnadbknjepaa.Ex.Ty.int Go.IntKind.i64).pair (Go.Proofs.Ytpahnadbknjepaa.Ex.Ty.int Go.IntKind.i64)).st o.snd.snd.snd.fst, Go.Proofs.Ytpahnadbknjepaa.Ex.AV.int Go.IntKind.i64 o.snd.snd.snd.snd.fst,
                  Go.Proofs.Ytpahnadbknjepaa.Ex.AV.int Go.IntKind.i64 o.snd.snd.snd.snd.snd]),
            (1,
              Go.Proofs.Ytpahnadbknjepaa.Ex.Blk.box
                [Go.Proofs.Ytpahnadbknjepaa.Ex.AV.bool r.fst, Go.Proofs.Ytpahnadbknjepaa.Ex.AV.sl ((Go.Proofs.Ytpahnadbknjepaa.Ex.Ty.int Go.IntKind.i64).pair (Go.Proofs.Ytpahnadbknjepaa.Ex.Ty.int Go.IntKind.i64)).st r.snd.fst,
                  Go.Proofs.Ytpahnadbknjepaa.Ex.AV.sl ((Go.Proofs.Ytpahnadbknjepaa.Ex.Ty.int Go.IntKind.i64).pair (Go.Proofs.Ytpahnadbknjepaa.Ex.Ty.int Go.IntKind.i64)).st r.snd.snd.fst,
                  Go.Proofs.Ytpahnadbknjepaa.Ex.AV.sl ((Go.Proofs.Ytpahnadbknjepaa.Ex.Ty.int Go.IntKind.i64).pair (Go.Proofs.Ytpahnadbknjepaa.Ex.Ty.int Go.IntKind.i64)).st r.snd.snd.snd.fst, Go.Proofs.Ytpahnadbknjepaa.Ex.AV.int Go.IntKind.i64 r.snd.snd.snd.snd.fst,
                  Go.Proofs.Ytpahnadbknjepaa.Ex.AV.int Go.IntKind.i64 r.snd.snd.snd.snd.snd])],
        c := 2 } := by kernel_rfl
end Go.Proofs.Ytpahnadbknjepaa.Ex

/- Loops J: what they come to. -/
namespace Go.Proofs.Ytpahnadbknjepaa.Ex
open Go.Proofs Go.Proofs.Ytpahnadbknjepaa
set_option maxRecDepth 100000
set_option linter.unusedVariables false
set_option linter.unusedSimpArgs false
def stepL11 (r : E)  (o : E) (d : E) : E := joinE o d
def allL11 (r : E) (l0 : List E) : Bool := l0.all fun d => okRE d
def vL11 (r : E) (l : List E) (s : E) : E := l.foldl (fun s d => stepL11 r  (s) d) s
theorem runL11 (r : E) (l : List E) (hl : l.length ≤ 4611686018427387904) (ha : allL11 r l = true) (s : E) (hI : okRE (s) = true) :
    go (iterM 0 keepL11 (FL11 0) (l.length + 1) (TL11 0 (l.length : Nat) l)) (HL11 (s) r) = some ((((2, TL11 (l.length : Nat) (l.length : Nat) l), HL11 ((vL11 r l s)) r) : Out3)) := by
  have key := range_loop (keep := keepL11) (F := FL11 0) (fun i s => okRE (s) = true) l (fun i s => TL11 (i : Nat) (l.length : Nat) l) (fun i s => HL11 (s) r) (fun _ s d => .inl (stepL11 r  (s) d)) (fun s => (((2, TL11 (l.length : Nat) (l.length : Nat) l), HL11 (s) r) : Out3)) ?_ ?_ ?_ ?_ ?_ l 0 s rfl (Nat.zero_le _) hI
  · rw [runL_inl] at key
    exact key
  · intro i s d hi hd hm hI K
    have ha := List.all_eq_true.1 ha d hm
    rw [rnd11]
    have e1 : decide ((i : Int) < ((l.length : Nat) : Int)) = true := decide_eq_true (by omega)
    have e2 : decide (0 ≤ (i : Int)) = true := decide_eq_true (by omega)
    rw [e1, e2, Int.toNat_natCast, wrap_up hi hl]
    rw [hd]; obtain ⟨s1, s2, s3, s4, s5, s6⟩ := s; obtain ⟨d1, d2, d3, d4, d5, d6⟩ := d; simp only [optC, cond_true]
    cases d1 <;> cases s1 <;> simp only [cond_true, cond_false, Bool.not_true, Bool.not_false] <;> first | rfl | (rw [ha]; rfl) | (have hI' : okRE (true, s2, s3, s4, s5, s6) = true := hI; rw [hI']; rfl)
  · intro i s d s' hd hI e; cases e; exact okRE_join hI (List.all_eq_true.1 ha d hd)
  · intro i s d x e; cases e
  · intro s K
    rw [rnd11]
    have e1 : decide (((l.length : Nat) : Int) < ((l.length : Nat) : Int)) = false := decide_eq_false (by omega)
    rw [e1]
    rfl
  · intro s; exact nofun
def dT11 : Tm → Option (Int × Int × List E)
  | [(9, .int .i64 i), (8, .int .i64 n), (7, .sl (.st (.pair .bool (.pair (.sl (.st (.pair (.int .i64) (.int .i64)))) (.pair (.sl (.st (.pair (.int .i64) (.int .i64)))) (.pair (.sl (.st (.pair (.int .i64) (.int .i64)))) (.pair (.int .i64) (.int .i64))))))) l), (3, .ptr 0 0), (2, .ptr 1 0)] => some (i, n, l)
  | _ => none
def dH11 : Hp → Option (E × E)
  | ⟨[(0, .box [.bool o1, .sl (.st (.pair (.int .i64) (.int .i64))) o2, .sl (.st (.pair (.int .i64) (.int .i64))) o3, .sl (.st (.pair (.int .i64) (.int .i64))) o4, .int .i64 o5, .int .i64 o6]), (1, .box [.bool r1, .sl (.st (.pair (.int .i64) (.int .i64))) r2, .sl (.st (.pair (.int .i64) (.int .i64))) r3, .sl (.st (.pair (.int .i64) (.int .i64))) r4, .int .i64 r5, .int .i64 r6])], 2⟩ => some ((o1, o2, o3, o4, o5, o6), (r1, r2, r3, r4, r5, r6))
  | _ => none
theorem dT11_some {T : Tm} {t : Int × Int × List E} (e : dT11 T = some t) : T = TL11 (t.1) (t.2.1) (t.2.2) := by
  unfold dT11 at e
  split at e
  · cases e; rfl
  · cases e
theorem dH11_some {h : Hp} {u : E × E} (e : dH11 h = some u) : h = HL11 (u.1) (u.2) := by
  unfold dH11 at e
  split at e
  · cases e; rfl
  · cases e
def qL11 (base : Nat) (T : Tm) : Prog (Nat × Tm) := match base with
  | 0 => match dT11 T with
    | some t => loopA dH11 (fun u => ((t.1) == 0) && ((t.2.1) == ((t.2.2).length : Nat)) && decide (((t.2.2).length : Int) ≤ 4611686018427387904) && allL11 (u.2) (t.2.2) && okRE (u.1)) fun u => (((2, TL11 ((t.2.2).length : Nat) ((t.2.2).length : Nat) (t.2.2)), HL11 ((vL11 (u.2) (t.2.2) (u.1))) (u.2)) : Out3)
    | none => .fail
  | _ + 1 => .fail
theorem qgo11 (base : Nat) (T : Tm) (h : Hp) (r : Nat × Tm) (h' : Hp) (e : go (qL11 base T) h = some (r, h')) : ∃ m, go (iterM base keepL11 (FL11 base) m T) h = some (r, h') := by
  unfold qL11 at e
  split at e
  · split at e
    · rename_i t ht
      obtain ⟨u, hu, c, e2⟩ := loopA_go e
      rw [dT11_some ht, dH11_some hu]
      simp only [Bool.and_eq_true, beq_iff_eq, decide_eq_true_eq] at c
      obtain ⟨c, ci⟩ := c
      obtain ⟨c, ca⟩ := c
      obtain ⟨⟨c1, c2⟩, c3⟩ := c
      refine ⟨(t.2.2).length + 1, ?_⟩
      rw [c1, c2]
      rw [e2]
      have := runL11 (u.2) (t.2.2) (by omega) ca (u.1) ci
      exact this
    · cases e
  · cases e
noncomputable def lpL110 (base : Nat) (T : Tm) : Prog (Nat × Tm) := .norm base keepL11 T (qL11 base)
theorem sndL110 : SoundC Try.prog 28 (.loop (bodyX 11 0)) lpL110 :=
  loop_sound (cx := cxJ) (cal := evF cxJ keeps 3) (kp := keeps 11) (tabOk_of tab_ok) (cmpsOk_of tab_ok cmps_ok) calJ mixed (by intro q hq p hp; cases hp) qgo11
noncomputable def lpL11 (base : Nat) (T : Tm) : Prog (Nat × Tm) := unP [(0, unEs), (1, unEs)] [] keepL11 lpL110 base T
theorem sndL11 : SoundC Try.prog 28 (.loop (bodyX 11 0)) lpL11 := un_sound sndL110
end Go.Proofs.Ytpahnadbknjepaa.Ex

/- Contracts, level 10. -/
namespace Go.Proofs.Ytpahnadbknjepaa.Ex
open Go.Proofs Go.Proofs.Ytpahnadbknjepaa
set_option maxRecDepth 100000
set_option linter.unusedSimpArgs false
set_option linter.unusedVariables false
def joinL (l : List E) : E := l.foldl joinE (false, [], [], [], 0, 0)
def okJ (l : List E) : Bool := decide ((l.length : Int) ≤ 4611686018427387904) && allL11 (false, [], [], [], 0, 0) l
def sp10 : Nat → Option (List AV → Prog AV)
  | 46 => some (specP true M46)
  | 55 => some (specP true M55)
  | 45 => some (specP true M45)
  | 37 => some (specP true M37)
  | 38 => some (specP true M38)
  | 31 => some (specP true M31)
  | 36 => some (specP true M36)
  | 43 => some (specP true M43)
  | 44 => some (specP true M44)
  | 50 => some (specP true M50)
  | 54 => some (specP true M54)
  | 20 => some (specP true M20)
  | 39 => some (specP true M39)
  | 26 => some (specP true M26)
  | 52 => some (specP true M52)
  | 51 => some (specP true M51)
  | 40 => some (specP true M40)
  | 29 => some (specP true M29)
  | 42 => some (specP true M42j)
  | 21 => some (specP true M21)
  | 24 => some (specP true M24j)
  | 9 => some (specP true M9)
  | 41 => some (cloneP 16 tI)
  | 23 => some (specP true M23)
  | _ => none
noncomputable def lp10 : Nat → Nat → Option (Nat → Tm → Prog (Nat × Tm))
  | 11, 0 => some lpL11
  | _, _ => none
noncomputable def cx10 : Ctx := { tab := tab, spec := sp10, inl := inl, lps := lp10, fuel := 10 }
theorem hsp10 : ∀ g p, cx10.spec g = some p → SoundA Try.prog g p := by
  intro g p h
  change sp10 g = some p at h
  unfold sp10 at h
  split at h
  · cases h; exact snd46
  · cases h; exact snd55
  · cases h; exact snd45
  · cases h; exact snd37
  · cases h; exact snd38
  · cases h; exact snd31
  · cases h; exact snd36
  · cases h; exact snd43
  · cases h; exact snd44
  · cases h; exact snd50
  · cases h; exact snd54
  · cases h; exact snd20
  · cases h; exact snd39
  · cases h; exact snd26
  · cases h; exact snd52
  · cases h; exact snd51
  · cases h; exact snd40
  · cases h; exact snd29
  · cases h; exact snd42
  · cases h; exact snd21
  · cases h; exact snd24
  · cases h; exact snd9
  · cases h; exact sndClone
  · cases h; exact snd23
  · cases h
theorem in10 : InlOk Try.prog cx10 := ⟨inl_ok, fun g fn c hg hb q hq p hp => by
  change lp10 g q.1 = some p at hp
  change inl g = some fn at hg
  generalize hq1 : q.1 = b at hp
  unfold lp10 at hp
  split at hp
  · cases hp; exact lps_case (inl := inl) hg hb hq hq1 (by kernel_rfl) (by kernel_rfl) sndL11
  · cases hp⟩
theorem cal10 (g : Nat) : SoundA Try.prog g (evF cx10 keeps 3 g) := evF_sound (tabOk_of tab_ok) (cmpsOk_of tab_ok cmps_ok) mixed in10 hsp10 keeps 3 g
end Go.Proofs.Ytpahnadbknjepaa.Ex

/- What is run, level 10. -/
namespace Go.Proofs.Ytpahnadbknjepaa.Ex
open Go.Proofs Go.Proofs.Ytpahnadbknjepaa
set_option maxRecDepth 100000
theorem raw11L (l : List E) : ev cx10 11 [aLE l] =
  bif
      0 == 0 && (↑l.length : Int) == (↑l.length : Int) && Decidable.decide ((↑l.length : Int) ≤ 4611686018427387904) && Go.Proofs.Ytpahnadbknjepaa.Ex.allL11 (Bool.false, [], [], [], 0, 0) l &&
        Go.Proofs.Ytpahnadbknjepaa.Ex.okRE (Bool.false, [], [], [], 0, 0) then
    Option.some
      (Go.Proofs.Ytpahnadbknjepaa.Ex.AV.agg
          [Go.Proofs.Ytpahnadbknjepaa.Ex.AV.bool (Go.Proofs.Ytpahnadbknjepaa.Ex.vL11 (Bool.false, [], [], [], 0, 0) l (Bool.false, [], [], [], 0, 0)).fst,
            Go.Proofs.Ytpahnadbknjepaa.Ex.AV.sl ((Go.Proofs.Ytpahnadbknjepaa.Ex.Ty.int Go.IntKind.i64).pair (Go.Proofs.Ytpahnadbknjepaa.Ex.Ty.int Go.IntKind.i64)).st (Go.Proofs.Ytpahnadbknjepaa.Ex.vL11 (Bool.false, [], [], [], 0, 0) l (Bool.false, [], [], [], 0, 0)).snd.fst,
            Go.Proofs.Ytpahnadbknjepaa.Ex.AV.sl ((Go.Proofs.Ytpahnadbknjepaa.Ex.Ty.int Go.IntKind.i64).pair (Go.Proofs.Ytpahnadbknjepaa.Ex.Ty.int Go.IntKind.i64)).st (Go.Proofs.Ytpahnadbknjepaa.Ex.vL11 (Bool.false, [], [], [], 0, 0) l (Bool.false, [], [], [], 0, 0)).snd.snd.fst,
            Go.Proofs.Ytpahnadbknjepaa.Ex.AV.sl ((Go.Proofs.Ytpahnadbknjepaa.Ex.Ty.int Go.IntKind.i64).pair (Go.Proofs.Ytpahnadbknjepaa.Ex.Ty.int Go.IntKind.i64)).st (Go.Proofs.Ytpahnadbknjepaa.Ex.vL11 (Bool.false, [], [], [], 0, 0) l (Bool.false, [], [], [], 0, 0)).snd.snd.snd.fst,
            Go.Proofs.Ytpahnadbknjepaa.Ex.AV.int Go.IntKind.i64 (Go.Proofs.Ytpahnadbknjepaa.Ex.vL11 (Bool.false, [], [], [], 0, 0) l (Bool.false, [], [], [], 0, 0)).snd.snd.snd.snd.fst,
            Go.Proofs.Ytpahnadbknjepaa.Ex.AV.int Go.IntKind.i64 (Go.Proofs.Ytpahnadbknjepaa.Ex.vL11 (Bool.false, [], [], [], 0, 0) l (Bool.false, [], [], [], 0, 0)).snd.snd.snd.snd.snd],
        { blks := [], c := 0 })
  else Option.none := by kernel_rfl
end Go.Proofs.Ytpahnadbknjepaa.Ex

/- Contracts, level 10. -/
namespace Go.Proofs.Ytpahnadbknjepaa.Ex
open Go.Proofs Go.Proofs.Ytpahnadbknjepaa
set_option maxRecDepth 100000
set_option linter.unusedSimpArgs false
set_option linter.unusedVariables false
theorem ok11L (l : List E) (hp : okJ l = true) : ev cx10 11 [aLE l] = outV (aE (joinL l)) := by
  rw [raw11L]
  simp only [okJ, Bool.and_eq_true] at hp; obtain ⟨p1, p2⟩ := hp; rw [p1, show allL11 (false, [], [], [], 0, 0) l = true from p2]
  have e1 : okRE (false, [], [], [], 0, 0) = true := rfl
  rw [e1]; simp only [beq_self_eq_true, Bool.and_true, Bool.true_and, cond_true]; rfl
def M11L : List AV → Option (Bool × AV × List Blk)
  | [v_l] => (gLE v_l).bind fun l => some (okJ l, aE (joinL l), [])
  | _ => none
theorem hM11L (args : List AV) (v : AV) (bs : List Blk) (h : M11L args = some (true, v, bs)) : AV.idsL args = [] ∧ (true = true ∨ (plainV v = true ∧ bs.all plainB = true)) ∧ ∃ fb, ex ((evF cx10 keeps 3 11 args).bind (finP true)) false ⟨[], 0⟩ ⟨[], []⟩ = some (v, ⟨enumB 0 bs, bs.length⟩, fb) := by
  unfold M11L at h
  split at h
  · obtain ⟨l, h_l, h0⟩ := Option.bind_eq_some_iff.1 h
    simp only [Option.some.injEq, Prod.mk.injEq] at h0
    obtain ⟨hp, rfl, rfl⟩ := h0
    have e_l := gLE_some h_l
    subst e_l
    exact ⟨rfl, .inl rfl, ev_ex (ok11L l hp)⟩
  · cases h
theorem snd11L : SoundA Try.prog 11 (specP true M11L) := soundA_spec (fz := true) (cal10 11) hM11L
end Go.Proofs.Ytpahnadbknjepaa.Ex

/- Loops W: where each round begins. -/
namespace Go.Proofs.Ytpahnadbknjepaa.Ex
open Go.Proofs Go.Proofs.Ytpahnadbknjepaa
set_option maxRecDepth 100000
set_option linter.unusedVariables false
set_option linter.unusedSimpArgs false
def spW : Nat → Option (List AV → Prog AV)
  | 46 => some (specP true M46)
  | 55 => some (specP true M55)
  | 45 => some (specP true M45)
  | 37 => some (specP true M37)
  | 38 => some (specP true M38)
  | 31 => some (specP true M31)
  | 36 => some (specP true M36)
  | 43 => some (specP true M43)
  | 44 => some (specP true M44)
  | 50 => some (specP true M50)
  | 54 => some (specP true M54)
  | 20 => some (specP true M20)
  | 39 => some (specP true M39)
  | 26 => some (specP true M26)
  | 52 => some (specP true M52)
  | 51 => some (specP true M51)
  | 40 => some (specP true M40)
  | 29 => some (specP true M29)
  | 42 => some (specP true M42j)
  | 21 => some (specP true M21)
  | 24 => some (specP true M24j)
  | 9 => some (specP true M9)
  | 41 => some (cloneP 16 tI)
  | 23 => some (specP true M23)
  | 11 => some (pickS isNil1 (specP true M11N) (specP true M11L))
  | _ => none
noncomputable def cxW : Ctx := { tab := tab, spec := spW, inl := inl, lps := fun _ _ => none, fuel := 10 }
theorem hspW : ∀ g p, cxW.spec g = some p → SoundA Try.prog g p := by
  intro g p h
  change spW g = some p at h
  unfold spW at h
  split at h
  · cases h; exact snd46
  · cases h; exact snd55
  · cases h; exact snd45
  · cases h; exact snd37
  · cases h; exact snd38
  · cases h; exact snd31
  · cases h; exact snd36
  · cases h; exact snd43
  · cases h; exact snd44
  · cases h; exact snd50
  · cases h; exact snd54
  · cases h; exact snd20
  · cases h; exact snd39
  · cases h; exact snd26
  · cases h; exact snd52
  · cases h; exact snd51
  · cases h; exact snd40
  · cases h; exact snd29
  · cases h; exact snd42
  · cases h; exact snd21
  · cases h; exact snd24
  · cases h; exact snd9
  · cases h; exact sndClone
  · cases h; exact snd23
  · cases h; exact (SoundA.pick isNil1 snd11 snd11L)
  · cases h
theorem inW : InlOk Try.prog cxW := ⟨inl_ok, fun _ _ _ _ _ _ _ _ h => nomatch h⟩
theorem calW : CalOk Try.prog (evF cxW keeps 3) := fun g => evF_sound (tabOk_of tab_ok) (cmpsOk_of tab_ok cmps_ok) mixed inW hspW keeps 3 g
def keepL33 : List Nat := [4, 3, 6, 26, 25, 24, 7, 8, 9]
noncomputable def FL33 (base : Nat) : Tm → Prog (Nat × Tm) := evC cxW (evF cxW keeps 3) ⟨33, 64, keeps 33, base⟩ 1 (bodyX 33 1)
def TL33 (i : Int) (n : Int) (l : List Int) (lo : Int) (hi : Int) : Tm := [(4, .ptr 0 0), (3, .ptr 1 0), (6, .ptr 2 0), (26, .int .i64 i), (25, .int .i64 n), (24, .sl (.int .i64) l), (7, .ptr 3 0), (8, .int .i64 lo), (9, .int .i64 hi)]
def HL33 (y : I) (x : I) (r : I) (z : I) : Hp := ⟨[(0, .box [.int .i64 y.1, .int .i64 y.2]), (1, .box [.int .i64 x.1, .int .i64 x.2]), (2, .box [.int .i64 r.1, .int .i64 r.2]), (3, .box [.int .i64 z.1, .int .i64 z.2])], 4⟩
def keepL53 : List Nat := [4, 3, 6, 10, 2, 7, 8, 9]
noncomputable def FL53 (base : Nat) : Tm → Prog (Nat × Tm) := evC cxW (evF cxW keeps 3) ⟨53, 66, keeps 53, base⟩ 0 (bodyX 53 0)
def TL53 (i : Int) (l : List Int) (lo : Int) (hi : Int) : Tm := [(4, .ptr 0 0), (3, .ptr 1 0), (6, .ptr 2 0), (10, .int .i64 i), (2, .sl (.int .i64) l), (7, .ptr 3 0), (8, .int .i64 lo), (9, .int .i64 hi)]
def HL53 (y : I) (x : I) (r : I) (z : I) : Hp := ⟨[(0, .box [.int .i64 y.1, .int .i64 y.2]), (1, .box [.int .i64 x.1, .int .i64 x.2]), (2, .box [.int .i64 r.1, .int .i64 r.2]), (3, .box [.int .i64 z.1, .int .i64 z.2])], 4⟩
end Go.Proofs.Ytpahnadbknjepaa.Ex

/- Loops W: each round. -/
namespace Go.Proofs.Ytpahnadbknjepaa.Ex
open Go.Proofs Go.Proofs.Ytpahnadbknjepaa
set_option maxRecDepth 100000
set_option linter.unusedVariables false
set_option linter.unusedSimpArgs false
theorem rnd33 {R : Type} (i : Int) (n : Int) (l : List Int) (lo : Int) (hi : Int) (y : I) (x : I) (r : I) (z : I) (K : Nat → Tm → Hp → Option R) : round 0 keepL33 (FL33 0) (TL33 i n l lo hi) (HL33 y x r z) K =
  bif Decidable.decide (i < n) then
    bif Decidable.decide (0 ≤ i) then
      Go.Proofs.Ytpahnadbknjepaa.Ex.optC l[i.toNat]? Option.none fun d11 ↦
        bif !Go.Proofs.Ytpahnadbknjepaa.Ex.fitB d11 then
          K 0
            [(4, Go.Proofs.Ytpahnadbknjepaa.Ex.AV.ptr 0 0), (3, Go.Proofs.Ytpahnadbknjepaa.Ex.AV.ptr 1 0), (6, Go.Proofs.Ytpahnadbknjepaa.Ex.AV.ptr 2 0), (26, Go.Proofs.Ytpahnadbknjepaa.Ex.AV.int Go.IntKind.i64 (Go.IntKind.i64.wrap (i + 1))), (25, Go.Proofs.Ytpahnadbknjepaa.Ex.AV.int Go.IntKind.i64 n),
              (24, Go.Proofs.Ytpahnadbknjepaa.Ex.AV.sl (Go.Proofs.Ytpahnadbknjepaa.Ex.Ty.int Go.IntKind.i64) l), (7, Go.Proofs.Ytpahnadbknjepaa.Ex.AV.ptr 3 0), (8, Go.Proofs.Ytpahnadbknjepaa.Ex.AV.int Go.IntKind.i64 lo), (9, Go.Proofs.Ytpahnadbknjepaa.Ex.AV.int Go.IntKind.i64 hi)]
            {
              blks :=
                [(0, Go.Proofs.Ytpahnadbknjepaa.Ex.Blk.box [Go.Proofs.Ytpahnadbknjepaa.Ex.AV.int Go.IntKind.i64 y.fst, Go.Proofs.Ytpahnadbknjepaa.Ex.AV.int Go.IntKind.i64 y.snd]), (1, Go.Proofs.Ytpahnadbknjepaa.Ex.Blk.box [Go.Proofs.Ytpahnadbknjepaa.Ex.AV.int Go.IntKind.i64 x.fst, Go.Proofs.Ytpahnadbknjepaa.Ex.AV.int Go.IntKind.i64 x.snd]),
                  (2, Go.Proofs.Ytpahnadbknjepaa.Ex.Blk.box [Go.Proofs.Ytpahnadbknjepaa.Ex.AV.int Go.IntKind.i64 r.fst, Go.Proofs.Ytpahnadbknjepaa.Ex.AV.int Go.IntKind.i64 r.snd]), (3, Go.Proofs.Ytpahnadbknjepaa.Ex.Blk.box [Go.Proofs.Ytpahnadbknjepaa.Ex.AV.int Go.IntKind.i64 z.fst, Go.Proofs.Ytpahnadbknjepaa.Ex.AV.int Go.IntKind.i64 z.snd])],
              c := 4 }
        else
          bif Decidable.decide (d11 ≤ z.fst) then
            bif Decidable.decide (d11 ≥ z.snd) then
              K 0
                [(4, Go.Proofs.Ytpahnadbknjepaa.Ex.AV.ptr 0 0), (3, Go.Proofs.Ytpahnadbknjepaa.Ex.AV.ptr 1 0), (6, Go.Proofs.Ytpahnadbknjepaa.Ex.AV.ptr 2 0), (26, Go.Proofs.Ytpahnadbknjepaa.Ex.AV.int Go.IntKind.i64 (Go.IntKind.i64.wrap (i + 1))), (25, Go.Proofs.Ytpahnadbknjepaa.Ex.AV.int Go.IntKind.i64 n),
                  (24, Go.Proofs.Ytpahnadbknjepaa.Ex.AV.sl (Go.Proofs.Ytpahnadbknjepaa.Ex.Ty.int Go.IntKind.i64) l), (7, Go.Proofs.Ytpahnadbknjepaa.Ex.AV.ptr 3 0), (8, Go.Proofs.Ytpahnadbknjepaa.Ex.AV.int Go.IntKind.i64 (if d11 > lo then d11 else lo)),
                  (9, Go.Proofs.Ytpahnadbknjepaa.Ex.AV.int Go.IntKind.i64 (if d11 < hi then d11 else hi))]
                {
                  blks :=
                    [(0, Go.Proofs.Ytpahnadbknjepaa.Ex.Blk.box [Go.Proofs.Ytpahnadbknjepaa.Ex.AV.int Go.IntKind.i64 y.fst, Go.Proofs.Ytpahnadbknjepaa.Ex.AV.int Go.IntKind.i64 y.snd]), (1, Go.Proofs.Ytpahnadbknjepaa.Ex.Blk.box [Go.Proofs.Ytpahnadbknjepaa.Ex.AV.int Go.IntKind.i64 x.fst, Go.Proofs.Ytpahnadbknjepaa.Ex.AV.int Go.IntKind.i64 x.snd]),
                      (2, Go.Proofs.Ytpahnadbknjepaa.Ex.Blk.box [Go.Proofs.Ytpahnadbknjepaa.Ex.AV.int Go.IntKind.i64 r.fst, Go.Proofs.Ytpahnadbknjepaa.Ex.AV.int Go.IntKind.i64 r.snd]),
                      (3, Go.Proofs.Ytpahnadbknjepaa.Ex.Blk.box [Go.Proofs.Ytpahnadbknjepaa.Ex.AV.int Go.IntKind.i64 z.fst, Go.Proofs.Ytpahnadbknjepaa.Ex.AV.int Go.IntKind.i64 z.snd])],
                  c := 4 }
            else
              K 0
                [(4, Go.Proofs.Ytpahnadbknjepaa.Ex.AV.ptr 0 0), (3, Go.Proofs.Ytpahnadbknjepaa.Ex.AV.ptr 1 0), (6, Go.Proofs.Ytpahnadbknjepaa.Ex.AV.ptr 2 0), (26, Go.Proofs.Ytpahnadbknjepaa.Ex.AV.int Go.IntKind.i64 (Go.IntKind.i64.wrap (i + 1))), (25, Go.Proofs.Ytpahnadbknjepaa.Ex.AV.int Go.IntKind.i64 n),
                  (24, Go.Proofs.Ytpahnadbknjepaa.Ex.AV.sl (Go.Proofs.Ytpahnadbknjepaa.Ex.Ty.int Go.IntKind.i64) l), (7, Go.Proofs.Ytpahnadbknjepaa.Ex.AV.ptr 3 0), (8, Go.Proofs.Ytpahnadbknjepaa.Ex.AV.int Go.IntKind.i64 (if d11 > lo then d11 else lo)), (9, Go.Proofs.Ytpahnadbknjepaa.Ex.AV.int Go.IntKind.i64 hi)]
                {
                  blks :=
                    [(0, Go.Proofs.Ytpahnadbknjepaa.Ex.Blk.box [Go.Proofs.Ytpahnadbknjepaa.Ex.AV.int Go.IntKind.i64 y.fst, Go.Proofs.Ytpahnadbknjepaa.Ex.AV.int Go.IntKind.i64 y.snd]), (1, Go.Proofs.Ytpahnadbknjepaa.Ex.Blk.box [Go.Proofs.Ytpahnadbknjepaa.Ex.AV.int Go.IntKind.i64 x.fst, Go.Proofs.Ytpahnadbknjepaa.Ex.AV.int Go.IntKind.i64 x.snd]),
                      (2, Go.Proofs.Ytpahnadbknjepaa.Ex.Blk.box [Go.Proofs.Ytpahnadbknjepaa.Ex.AV.int Go.IntKind.i64 r.fst, Go.Proofs.Ytpahnadbknjepaa.Ex.AV.int Go.IntKind.i64 r.snd]),
                      (3, Go.Proofs.Ytpahnadbknjepaa.Ex.Blk.box [Go.Proofs.Ytpahnadbknjepaa.Ex.AV.int Go.IntKind.i64 z.fst, Go.Proofs.Ytpahnadbknjepaa.Ex.AV.int Go.IntKind.i64 z.snd])],
                  c := 4 }
          else
            bif Decidable.decide (d11 ≥ z.snd) then
              K 0
                [(4, Go.Proofs.Ytpahnadbknjepaa.Ex.AV.ptr 0 0), (3, Go.Proofs.Ytpahnadbknjepaa.Ex.AV.ptr 1 0), (6, Go.Proofs.Ytpahnadbknjepaa.Ex.AV.ptr 2 0), (26, Go.Proofs.Ytpahnadbknjepaa.Ex.AV.int Go.IntKind.i64 (Go.IntKind.i64.wrap (i + 1))), (25, Go.Proofs.Ytpahnadbknjepaa.Ex.AV.int Go.IntKind.i64 n),
                  (24, Go.Proofs.Ytpahnadbknjepaa.Ex.AV.sl (Go.Proofs.Ytpahnadbknjepaa.Ex.Ty.int Go.IntKind.i64) l), (7, Go.Proofs.Ytpahnadbknjepaa.Ex.AV.ptr 3 0), (8, Go.Proofs.Ytpahnadbknjepaa.Ex.AV.int Go.IntKind.i64 lo), (9, Go.Proofs.Ytpahnadbknjepaa.Ex.AV.int Go.IntKind.i64 (if d11 < hi then d11 else hi))]
                {
                  blks :=
                    [(0, Go.Proofs.Ytpahnadbknjepaa.Ex.Blk.box [Go.Proofs.Ytpahnadbknjepaa.Ex.AV.int Go.IntKind.i64 y.fst, Go.Proofs.Ytpahnadbknjepaa.Ex.AV.int Go.IntKind.i64 y.snd]), (1, Go.Proofs.Ytpahnadbknjepaa.Ex.Blk.box [Go.Proofs.Ytpahnadbknjepaa.Ex.AV.int Go.IntKind.i64 x.fst, Go.Proofs.Ytpahnadbknjepaa.Ex.AV.int Go.IntKind.i64 x.snd]),
                      (2, Go.Proofs.Ytpahnadbknjepaa.Ex.Blk.box [Go.Proofs.Ytpahnadbknjepaa.Ex.AV.int Go.IntKind.i64 r.fst, Go.Proofs.Ytpahnadbknjepaa.Ex.AV.int Go.IntKind.i64 r.snd]),
                      (3, Go.Proofs.Ytpahnadbknjepaa.Ex.Blk.box [Go.Proofs.Ytpahnadbknjepaa.Ex.AV.int Go.IntKind.i64 z.fst, Go.Proofs.Ytpahnadbknjepaa.Ex.AV.int Go.IntKind.i64 z.snd])],
                  c := 4 }
            else
              K 0
                [(4, Go.Proofs.Ytpahnadbknjepaa.Ex.AV.ptr 0 0), (3, Go.Proofs.Ytpahnadbknjepaa.Ex.AV.ptr 1 0), (6, Go.Proofs.Ytpahnadbknjepaa.Ex.AV.ptr 2 0), (26, Go.Proofs.Ytpahnadbknjepaa.Ex.AV.int Go.IntKind.i64 (Go.IntKind.i64.wrap (i + 1))), (25, Go.Proofs.Ytpahnadbknjepaa.Ex.AV.int Go.IntKind.i64 n),
                  (24, Go.Proofs.Ytpahnadbknjepaa.Ex.AV.sl (Go.Proofs.Ytpahnadbknjepaa.Ex.Ty.int Go.IntKind.i64) l), (7, Go.Proofs.Ytpahnadbknjepaa.Ex.AV.ptr 3 0), (8, Go.Proofs.Ytpahnadbknjepaa.Ex.AV.int Go.IntKind.i64 lo), (9, Go.Proofs.Ytpahnadbknjepaa.Ex.AV.int Go.IntKind.i64 hi)]
                {
                  blks :=
                    [(0, Go.Proofs.Ytpahnadbknjepaa.Ex.Blk.box [Go.Proofs.Ytpahnadbknjepaa.Ex.AV.int Go.IntKind.i64 y.fst, Go.Proofs.Ytpahnadbknjepaa.Ex.AV.int Go.IntKind.i64 y.snd]), (1, Go.Proofs.Ytpahnadbknjepaa.Ex.Blk.box [Go.Proofs.Ytpahnadbknjepaa.Ex.AV.int Go.IntKind.i64 x.fst, Go.Proofs.Ytpahnadbknjepaa.Ex.AV.int Go.IntKind.i64 x.snd]),
                      (2, Go.Proofs.Ytpahnadbknjepaa.Ex.Blk.box [Go.Proofs.Ytpahnadbknjepaa.Ex.AV.int Go.IntKind.i64 r.fst, Go.Proofs.Ytpahnadbknjepaa.Ex.AV.int Go.IntKind.i64 r.snd]),
                      (3, Go.Proofs.Ytpahnadbknjepaa.Ex.Blk.box [Go.Proofs.Ytpahnadbknjepaa.Ex.AV.int Go.IntKind.i64 z.fst, Go.Proofs.Ytpahnadbknjepaa.Ex.AV.int Go.IntKind.i64 z.snd])],
                  c := 4 }
    else Option.none
  else
    K 3
      [(4, Go.Proofs.Ytpahnadbknjepaa.Ex.AV.ptr 0 0), (3, Go.Proofs.Ytpahnadbknjepaa.Ex.AV.ptr 1 0), (6, Go.Proofs.Ytpahnadbknjepaa.Ex.AV.ptr 2 0), (26, Go.Proofs.Ytpahnadbknjepaa.Ex.AV.int Go.IntKind.i64 i), (25, Go.Proofs.Ytpahnadbknjepaa.Ex.AV.int Go.IntKind.i64 n), (24, Go.Proofs.Ytpahnadbknjepaa.Ex.AV.sl (Go.Proofs.Ytpahnadbknjepaa.Ex.Ty.int Go.IntKind.i64) l),
        (7, Go.Proofs.Ytpahnadbknjepaa.Ex.AV.ptr 3 0), (8, Go.Proofs.Ytpahnadbknjepaa.Ex.AV.int Go.IntKind.i64 lo), (9, Go.Proofs.Ytpahnadbknjepaa.Ex.AV.int Go.IntKind.i64 hi)]
      {
        blks :=
          [(0, Go.Proofs.Ytpahnadbknjepaa.Ex.Blk.box [Go.Proofs.Ytpahnadbknjepaa.Ex.AV.int Go.IntKind.i64 y.fst, Go.Proofs.Ytpahnadbknjepaa.Ex.AV.int Go.IntKind.i64 y.snd]), (1, Go.Proofs.Ytpahnadbknjepaa.Ex.Blk.box [Go.Proofs.Ytpahnadbknjepaa.Ex.AV.int Go.IntKind.i64 x.fst, Go.Proofs.Ytpahnadbknjepaa.Ex.AV.int Go.IntKind.i64 x.snd]),
            (2, Go.Proofs.Ytpahnadbknjepaa.Ex.Blk.box [Go.Proofs.Ytpahnadbknjepaa.Ex.AV.int Go.IntKind.i64 r.fst, Go.Proofs.Ytpahnadbknjepaa.Ex.AV.int Go.IntKind.i64 r.snd]), (3, Go.Proofs.Ytpahnadbknjepaa.Ex.Blk.box [Go.Proofs.Ytpahnadbknjepaa.Ex.AV.int Go.IntKind.i64 z.fst, Go.Proofs.Ytpahnadbknjepaa.Ex.AV.int Go.IntKind.i64 z.snd])],
        c := 4 } := by kernel_rfl
theorem rnd53 {R : Type} (i : Int) (l : List Int) (lo : Int) (hi : Int) (y : I) (x : I) (r : I) (z : I) (K : Nat → Tm → Hp → Option R) : round 0 keepL53 (FL53 0) (TL53 i l lo hi) (HL53 y x r z) K =
  bif Decidable.decide (i < (↑l.length : Int)) then
    bif Decidable.decide (0 ≤ i) then
      Go.Proofs.Ytpahnadbknjepaa.Ex.optC l[i.toNat]? Option.none fun d10 ↦
        bif Decidable.decide (d10 ≤ z.fst) then
          bif Decidable.decide (d10 > lo) then
            bif Decidable.decide (d10 ≥ z.snd) then
              bif Decidable.decide (d10 < hi) then
                K 0
                  [(4, Go.Proofs.Ytpahnadbknjepaa.Ex.AV.ptr 0 0), (3, Go.Proofs.Ytpahnadbknjepaa.Ex.AV.ptr 1 0), (6, Go.Proofs.Ytpahnadbknjepaa.Ex.AV.ptr 2 0), (10, Go.Proofs.Ytpahnadbknjepaa.Ex.AV.int Go.IntKind.i64 (Go.IntKind.i64.wrap (i + 1))), (2, Go.Proofs.Ytpahnadbknjepaa.Ex.AV.sl (Go.Proofs.Ytpahnadbknjepaa.Ex.Ty.int Go.IntKind.i64) l),
                    (7, Go.Proofs.Ytpahnadbknjepaa.Ex.AV.ptr 3 0), (8, Go.Proofs.Ytpahnadbknjepaa.Ex.AV.int Go.IntKind.i64 d10), (9, Go.Proofs.Ytpahnadbknjepaa.Ex.AV.int Go.IntKind.i64 d10)]
                  {
                    blks :=
                      [(0, Go.Proofs.Ytpahnadbknjepaa.Ex.Blk.box [Go.Proofs.Ytpahnadbknjepaa.Ex.AV.int Go.IntKind.i64 y.fst, Go.Proofs.Ytpahnadbknjepaa.Ex.AV.int Go.IntKind.i64 y.snd]),
                        (1, Go.Proofs.Ytpahnadbknjepaa.Ex.Blk.box [Go.Proofs.Ytpahnadbknjepaa.Ex.AV.int Go.IntKind.i64 x.fst, Go.Proofs.Ytpahnadbknjepaa.Ex.AV.int Go.IntKind.i64 x.snd]),
                        (2, Go.Proofs.Ytpahnadbknjepaa.Ex.Blk.box [Go.Proofs.Ytpahnadbknjepaa.Ex.AV.int Go.IntKind.i64 r.fst, Go.Proofs.Ytpahnadbknjepaa.Ex.AV.int Go.IntKind.i64 r.snd]),
                        (3, Go.Proofs.Ytpahnadbknjepaa.Ex.Blk.box [Go.Proofs.Ytpahnadbknjepaa.Ex.AV.int Go.IntKind.i64 z.fst, Go.Proofs.Ytpahnadbknjepaa.Ex.AV.int Go.IntKind.i64 z.snd])],
                    c := 4 }
              else
                K 0
                  [(4, Go.Proofs.Ytpahnadbknjepaa.Ex.AV.ptr 0 0), (3, Go.Proofs.Ytpahnadbknjepaa.Ex.AV.ptr 1 0), (6, Go.Proofs.Ytpahnadbknjepaa.Ex.AV.ptr 2 0), (10, Go.Proofs.Ytpahnadbknjepaa.Ex.AV.int Go.IntKind.i64 (Go.IntKind.i64.wrap (i + 1))), (2, Go.Proofs.Ytpahnadbknjepaa.Ex.AV.sl (Go.Proofs.Ytpahnadbknjepaa.Ex.Ty.int Go.IntKind.i64) l),
                    (7, Go.Proofs.Ytpahnadbknjepaa.Ex.AV.ptr 3 0), (8, Go.Proofs.Ytpahnadbknjepaa.Ex.AV.int Go.IntKind.i64 d10), (9, Go.Proofs.Ytpahnadbknjepaa.Ex.AV.int Go.IntKind.i64 hi)]
                  {
                    blks :=
                      [(0, Go.Proofs.Ytpahnadbknjepaa.Ex.Blk.box [Go.Proofs.Ytpahnadbknjepaa.Ex.AV.int Go.IntKind.i64 y.fst, Go.Proofs.Ytpahnadbknjepaa.Ex.AV.int Go.IntKind.i64 y.snd]),
                        (1, Go.Proofs.Ytpahnadbknjepaa.Ex.Blk.box [Go.Proofs.Ytpahnadbknjepaa.Ex.AV.int Go.IntKind.i64 x.fst, Go.Proofs.Ytpahnadbknjepaa.Ex.AV.int Go.IntKind.i64 x.snd]),
                        (2, Go.Proofs.Ytpahnadbknjepaa.Ex.Blk.box [Go.Proofs.Ytpahnadbknjepaa.Ex.AV.int Go.IntKind.i64 r.fst, Go.Proofs.Ytpahnadbknjepaa.Ex.AV.int Go.IntKind.i64 r.snd]),
                        (3, Go.Proofs.Ytpahnadbknjepaa.Ex.Blk.box [Go.Proofs.Ytpahnadbknjepaa.Ex.AV.int Go.IntKind.i64 z.fst, Go.Proofs.Ytpahnadbknjepaa.Ex.AV.int Go.IntKind.i64 z.snd])],
                    c := 4 }
            else
              K 0
                [(4, Go.Proofs.Ytpahnadbknjepaa.Ex.AV.ptr 0 0), (3, Go.Proofs.Ytpahnadbknjepaa.Ex.AV.ptr 1 0), (6, Go.Proofs.Ytpahnadbknjepaa.Ex.AV.ptr 2 0), (10, Go.Proofs.Ytpahnadbknjepaa.Ex.AV.int Go.IntKind.i64 (Go.IntKind.i64.wrap (i + 1))), (2, Go.Proofs.Ytpahnadbknjepaa.Ex.AV.sl (Go.Proofs.Ytpahnadbknjepaa.Ex.Ty.int Go.IntKind.i64) l),
                  (7, Go.Proofs.Ytpahnadbknjepaa.Ex.AV.ptr 3 0), (8, Go.Proofs.Ytpahnadbknjepaa.Ex.AV.int Go.IntKind.i64 d10), (9, Go.Proofs.Ytpahnadbknjepaa.Ex.AV.int Go.IntKind.i64 hi)]
                {
                  blks :=
                    [(0, Go.Proofs.Ytpahnadbknjepaa.Ex.Blk.box [Go.Proofs.Ytpahnadbknjepaa.Ex.AV.int Go.IntKind.i64 y.fst, Go.Proofs.Ytpahnadbknjepaa.Ex.AV.int Go.IntKind.i64 y.snd]), (1, Go.Proofs.Ytpahnadbknjepaa.Ex.Blk.box [Go.Proofs.Ytpahnadbknjepaa.Ex.AV.int Go.IntKind.i64 x.fst, Go.Proofs.Ytpahnadbknjepaa.Ex.AV.int Go.IntKind.i64 x.snd]),
                      (2, Go.Proofs.Ytpahnadbknjepaa.Ex.Blk.box [Go.Proofs.Ytpahnadbknjepaa.Ex.AV.int Go.IntKind.i64 r.fst, Go.Proofs.Ytpahnadbknjepaa.Ex.AV.int Go.IntKind.i64 r.snd]),
                      (3, Go.Proofs.Ytpahnadbknjepaa.Ex.Blk.box [Go.Proofs.Ytpahnadbknjepaa.Ex.AV.int Go.IntKind.i64 z.fst, Go.Proofs.Ytpahnadbknjepaa.Ex.AV.int Go.IntKind.i64 z.snd])],
                  c := 4 }
          else
            bif Decidable.decide (d10 ≥ z.snd) then
              bif Decidable.decide (d10 < hi) then
                K 0
                  [(4, Go.Proofs.Ytpahnadbknjepaa.Ex.AV.ptr 0 0), (3, Go.Proofs.Ytpahnadbknjepaa.Ex.AV.ptr 1 0), (6, Go.Proofs.Ytpahnadbknjepaa.Ex.AV.ptr 2 0), (10, Go.Proofs.Ytpahnadbknjepaa.Ex.AV.int Go.IntKind.i64 (Go.IntKind.i64.wrap (i + 1))), (2, Go.Proofs.Ytpahnadbknjepaa.Ex.AV.sl (Go.Proofs.Ytpahnadbknjepaa.Ex.Ty.int Go.IntKind.i64) l),
                    (7, Go.Proofs.Ytpahnadbknjepaa.Ex.AV.ptr 3 0), (8, Go.Proofs.Ytpahnadbknjepaa.Ex.AV.int Go.IntKind.i64 lo), (9, Go.Proofs.Ytpahnadbknjepaa.Ex.AV.int Go.IntKind.i64 d10)]
                  {
                    blks :=
                      [(0, Go.Proofs.Ytpahnadbknjepaa.Ex.Blk.box [Go.Proofs.Ytpahnadbknjepaa.Ex.AV.int Go.IntKind.i64 y.fst, Go.Proofs.Ytpahnadbknjepaa.Ex.AV.int Go.IntKind.i64 y.snd]),
                        (1, Go.Proofs.Ytpahnadbknjepaa.Ex.Blk.box [Go.Proofs.Ytpahnadbknjepaa.Ex.AV.int Go.IntKind.i64 x.fst, Go.Proofs.Ytpahnadbknjepaa.Ex.AV.int Go.IntKind.i64 x.snd]),
                        (2, Go.Proofs.Ytpahnadbknjepaa.Ex.Blk.box [Go.Proofs.Ytpahnadbknjepaa.Ex.AV.int Go.IntKind.i64 r.fst, Go.Proofs.Ytpahnadbknjepaa.Ex.AV.int Go.IntKind.i64 r.snd]),
                        (3, Go.Proofs.Ytpahnadbknjepaa.Ex.Blk.box [Go.Proofs.Ytpahnadbknjepaa.Ex.AV.int Go.IntKind.i64 z.fst, Go.Proofs.Ytpahnadbknjepaa.Ex.AV.int Go.IntKind.i64 z.snd])],
                    c := 4 }
              else
                K 0
                  [(4, Go.Proofs.Ytpahnadbknjepaa.Ex.AV.ptr 0 0), (3, Go.Proofs.Ytpahnadbknjepaa.Ex.AV.ptr 1 0), (6, Go.Proofs.Ytpahnadbknjepaa.Ex.AV.ptr 2 0), (10, Go.Proofs.Ytpahnadbknjepaa.Ex.AV.int Go.IntKind.i64 (Go.IntKind.i64.wrap (i + 1))), (2, Go.Proofs.Ytpahnadbknjepaa.Ex.AV.sl (Go.Proofs.Ytpahnadbknjepaa.Ex.Ty.int Go.IntKind.i64) l),
                    (7, Go.Proofs.Ytpahnadbknjepaa.Ex.AV.ptr 3 0), (8, Go.Proofs.Ytpahnadbknjepaa.Ex.AV.int Go.IntKind.i64 lo), (9, Go.Proofs.Ytpahnadbknjepaa.Ex.AV.int Go.IntKind.i64 hi)]
                  {
                    blks :=
                      [(0, Go.Proofs.Ytpahnadbknjepaa.Ex.Blk.box [Go.Proofs.Ytpahnadbknjepaa.Ex.AV.int Go.IntKind.i64 y.fst, Go.Proofs.Ytpahnadbknjepaa.Ex.AV.int Go.IntKind.i64 y.snd]),
                        (1, Go.Proofs.Ytpahnadbknjepaa.Ex.Blk.box [Go.Proofs.Ytpahnadbknjepaa.Ex.AV.int Go.IntKind.i64 x.fst, Go.Proofs.Ytpahnadbknjepaa.Ex.AV.int Go.IntKind.i64 x.snd]),
                        (2, Go.Proofs.Ytpahnadbknjepaa.Ex.Blk.box [Go.Proofs.Ytpahnadbknjepaa.Ex.AV.int Go.IntKind.i64 r.fst, Go.Proofs.Ytpahnadbknjepaa.Ex.AV.int Go.IntKind.i64 r.snd]),
                        (3, Go.Proofs.Ytpahnadbknjepaa.Ex.Blk.box [Go.Proofs.Ytpahnadbknjepaa.Ex.AV.int Go.IntKind.i64 z.fst, Go.Proofs.Ytpahnadbknjepaa.Ex.AV.int Go.IntKind.i64 z.snd])],
                    c := 4 }
            else
              K 0
                [(4, Go.Proofs.Ytpahnadbknjepaa.Ex.AV.ptr 0 0), (3, Go.Proofs.Ytpahnadbknjepaa.Ex.AV.ptr 1 0), (6, Go.Proofs.Ytpahnadbknjepaa.Ex.AV.ptr 2 0), (10, Go.Proofs.Ytpahnadbknjepaa.Ex.AV.int Go.IntKind.i64 (Go.IntKind.i64.wrap (i + 1))), (2, Go.Proofs.Ytpahnadbknjepaa.Ex.AV.sl (Go.Proofs.Ytpahnadbknjepaa.Ex.Ty.int Go.IntKind.i64) l),
                  (7, Go.Proofs.Ytpahnadbknjepaa.Ex.AV.ptr 3 0), (8, Go.Proofs.Ytpahnadbknjepaa.Ex.AV.int Go.IntKind.i64 lo), (9, Go.Proofs.Ytpahnadbknjepaa.Ex.AV.int Go.IntKind.i64 hi)]
                {
                  blks :=
                    [(0, Go.Proofs.Ytpahnadbknjepaa.Ex.Blk.box [Go.Proofs.Ytpahnadbknjepaa.Ex.AV.int Go.IntKind.i64 y.fst, Go.Proofs.Ytpahnadbknjepaa.Ex.AV.int Go.IntKind.i64 y.snd]), (1, Go.Proofs.Ytpahnadbknjepaa.Ex.Blk.box [Go.Proofs.Ytpahnadbknjepaa.Ex.AV.int Go.IntKind.i64 x.fst, Go.Proofs.Ytpahnadbknjepaa.Ex.AV.int Go.IntKind.i64 x.snd]),
                      (2, Go.Proofs.Ytpahnadbknjepaa.Ex.Blk.box [Go.Proofs.Ytpahnadbknjepaa.Ex.AV.int Go.IntKind.i64 r.fst, Go.Proofs.Ytpahnadbknjepaa.Ex.AV.int Go.IntKind.i64 r.snd]),
                      (3, Go.Proofs.Ytpahnadbknjepaa.Ex.Blk.box [Go.Proofs.Ytpahnadbknjepaa.Ex.AV.int Go.IntKind.i64 z.fst, Go.Proofs.Ytpahnadbknjepaa.Ex.AV.int Go.IntKind.i64 z.snd])],
                  c := 4 }
        else
          bif Decidable.decide (d10 ≥ z.snd) then
            bif Decidable.decide (d10 < hi) then
              K 0
                [(4, Go.Proofs.Ytpahnadbknjepaa.Ex.AV.ptr 0 0), (3, Go.Proofs.Ytpahnadbknjepaa.Ex.AV.ptr 1 0), (6, Go.Proofs.Ytpahnadbknjepaa.Ex.AV.ptr 2 0), (10, Go.Proofs.Ytpahnadbknjepaa.Ex.AV.int Go.IntKind.i64 (Go.IntKind.i64.wrap (i + 1))), (2, Go.Proofs.Ytpahnadbknjepaa.Ex.AV.sl (Go.Proofs.Ytpahnadbknjepaa.Ex.Ty.int Go.IntKind.i64) l),
                  (7, Go.Proofs.Ytpahnadbknjepaa.Ex.AV.ptr 3 0), (8, Go.Proofs.Ytpahnadbknjepaa.Ex.AV.int Go.IntKind.i64 lo), (9, Go.Proofs.Ytpahnadbknjepaa.Ex.AV.int Go.IntKind.i64 d10)]
                {
                  blks :=
                    [(0, Go.Proofs.Ytpahnadbknjepaa.Ex.Blk.box [Go.Proofs.Ytpahnadbknjepaa.Ex.AV.int Go.IntKind.i64 y.fst, Go.Proofs.Ytpahnadbknjepaa.Ex.AV.int Go.IntKind.i64 y.snd]), (1, Go.Proofs.Ytpahnadbknjepaa.Ex.Blk.box [Go.Proofs.Ytpahnadbknjepaa.Ex.AV.int Go.IntKind.i64 x.fst, Go.Proofs.Ytpahnadbknjepaa.Ex.AV.int Go.IntKind.i64 x.snd]),
                      (2, Go.Proofs.Ytpahnadbknjepaa.Ex.Blk.box [Go.Proofs.Ytpahnadbknjepaa.Ex.AV.int Go.IntKind.i64 r.fst, Go.Proofs.Ytpahnadbknjepaa.Ex.AV.int Go.IntKind.i64 r.snd]),
                      (3, Go.Proofs.Ytpahnadbknjepaa.Ex.Blk.box [Go.Proofs.Ytpahnadbknjepaa.Ex.AV.int Go.IntKind.i64 z.fst, Go.Proofs.Ytpahnadbknjepaa.Ex.AV.int Go.IntKind.i64 z.snd])],
                  c := 4 }
            else
              K 0
                [(4, Go.Proofs.Ytpahnadbknjepaa.Ex.AV.ptr 0 0), (3, Go.Proofs.Ytpahnadbknjepaa.Ex.AV.ptr 1 0), (6, Go.Proofs.Ytpahnadbknjepaa.Ex.AV.ptr 2 0), (10, Go.Proofs.Ytpahnadbknjepaa.Ex.AV.int Go.IntKind.i64 (Go.IntKind.i64.wrap (i + 1))), (2, Go.Proofs.Ytpahnadbknjepaa.Ex.AV.sl (Go.Proofs.Ytpahnadbknjepaa.Ex.Ty.int Go.IntKind.i64) l),
                  (7, Go.Proofs.Ytpahnadbknjepaa.Ex.AV.ptr 3 0), (8, Go.Proofs.Ytpahnadbknjepaa.Ex.AV.int Go.IntKind.i64 lo), (9, Go.Proofs.Ytpahnadbknjepaa.Ex.AV.int Go.IntKind.i64 hi)]
                {
                  blks :=
                    [(0, Go.Proofs.Ytpahnadbknjepaa.Ex.Blk.box [Go.Proofs.Ytpahnadbknjepaa.Ex.AV.int Go.IntKind.i64 y.fst, Go.Proofs.Ytpahnadbknjepaa.Ex.AV.int Go.IntKind.i64 y.snd]), (1, Go.Proofs.Ytpahnadbknjepaa.Ex.Blk.box [Go.Proofs.Ytpahnadbknjepaa.Ex.AV.int Go.IntKind.i64 x.fst, Go.Proofs.Ytpahnadbknjepaa.Ex.AV.int Go.IntKind.i64 x.snd]),
                      (2, Go.Proofs.Ytpahnadbknjepaa.Ex.Blk.box [Go.Proofs.Ytpahnadbknjepaa.Ex.AV.int Go.IntKind.i64 r.fst, Go.Proofs.Ytpahnadbknjepaa.Ex.AV.int Go.IntKind.i64 r.snd]),
                      (3, Go.Proofs.Ytpahnadbknjepaa.Ex.Blk.box [Go.Proofs.Ytpahnadbknjepaa.Ex.AV.int Go.IntKind.i64 z.fst, Go.Proofs.Ytpahnadbknjepaa.Ex.AV.int Go.IntKind.i64 z.snd])],
                  c := 4 }
          else
            K 0
              [(4, Go.Proofs.Ytpahnadbknjepaa.Ex.AV.ptr 0 0), (3, Go.Proofs.Ytpahnadbknjepaa.Ex.AV.ptr 1 0), (6, Go.Proofs.Ytpahnadbknjepaa.Ex.AV.ptr 2 0), (10, Go.Proofs.Ytpahnadbknjepaa.Ex.AV.int Go.IntKind.i64 (Go.IntKind.i64.wrap (i + 1))), (2, Go.Proofs.Ytpahnadbknjepaa.Ex.AV.sl (Go.Proofs.Ytpahnadbknjepaa.Ex.Ty.int Go.IntKind.i64) l),
                (7, Go.Proofs.Ytpahnadbknjepaa.Ex.AV.ptr 3 0), (8, Go.Proofs.Ytpahnadbknjepaa.Ex.AV.int Go.IntKind.i64 lo), (9, Go.Proofs.Ytpahnadbknjepaa.Ex.AV.int Go.IntKind.i64 hi)]
              {
                blks :=
                  [(0, Go.Proofs.Ytpahnadbknjepaa.Ex.Blk.box [Go.Proofs.Ytpahnadbknjepaa.Ex.AV.int Go.IntKind.i64 y.fst, Go.Proofs.Ytpahnadbknjepaa.Ex.AV.int Go.IntKind.i64 y.snd]), (1, Go.Proofs.Ytpahnadbknjepaa.Ex.Blk.box [Go.Proofs.Ytpahnadbknjepaa.Ex.AV.int Go.IntKind.i64 x.fst, Go.Proofs.Ytpahnadbknjepaa.Ex.AV.int Go.IntKind.i64 x.snd]),
                    (2, Go.Proofs.Ytpahnadbknjepaa.Ex.Blk.box [Go.Proofs.Ytpahnadbknjepaa.Ex.AV.int Go.IntKind.i64 r.fst, Go.Proofs.Ytpahnadbknjepaa.Ex.AV.int Go.IntKind.i64 r.snd]), (3, Go.Proofs.Ytpahnadbknjepaa.Ex.Blk.box [Go.Proofs.Ytpahnadbknjepaa.Ex.AV.int Go.IntKind.i64 z.fst, Go.Proofs.Ytpahnadbknjepaa.Ex.AV.int Go.IntKind.i64 z.snd])],
                c := 4 }
    else Option.none
  else
    K 2
      [(4, Go.Proofs.Ytpahnadbknjepaa.Ex.AV.ptr 0 0), (3, Go.Proofs.Ytpahnadbknjepaa.Ex.AV.ptr 1 0), (6, Go.Proofs.Ytpahnadbknjepaa.Ex.AV.ptr 2 0), (10, Go.Proofs.Ytpahnadbknjepaa.Ex.AV.int Go.IntKind.i64 i), (2, Go.Proofs.Ytpahnadbknjepaa.Ex.AV.sl (Go.Proofs.Ytpahnadbknjepaa.Ex.Ty.int Go.IntKind.i64) l), (7, Go.Proofs.Ytpahnadbknjepaa.Ex.AV.ptr 3 0),
        (8, Go.Proofs.Ytpahnadbknjepaa.Ex.AV.int Go.IntKind.i64 lo), (9, Go.Proofs.Ytpahnadbknjepaa.Ex.AV.int Go.IntKind.i64 hi)]
      {
        blks :=
          [(0, Go.Proofs.Ytpahnadbknjepaa.Ex.Blk.box [Go.Proofs.Ytpahnadbknjepaa.Ex.AV.int Go.IntKind.i64 y.fst, Go.Proofs.Ytpahnadbknjepaa.Ex.AV.int Go.IntKind.i64 y.snd]), (1, Go.Proofs.Ytpahnadbknjepaa.Ex.Blk.box [Go.Proofs.Ytpahnadbknjepaa.Ex.AV.int Go.IntKind.i64 x.fst, Go.Proofs.Ytpahnadbknjepaa.Ex.AV.int Go.IntKind.i64 x.snd]),
            (2, Go.Proofs.Ytpahnadbknjepaa.Ex.Blk.box [Go.Proofs.Ytpahnadbknjepaa.Ex.AV.int Go.IntKind.i64 r.fst, Go.Proofs.Ytpahnadbknjepaa.Ex.AV.int Go.IntKind.i64 r.snd]), (3, Go.Proofs.Ytpahnadbknjepaa.Ex.Blk.box [Go.Proofs.Ytpahnadbknjepaa.Ex.AV.int Go.IntKind.i64 z.fst, Go.Proofs.Ytpahnadbknjepaa.Ex.AV.int Go.IntKind.i64 z.snd])],
        c := 4 } := by kernel_rfl
end Go.Proofs.Ytpahnadbknjepaa.Ex

/- Loops W: what they come to. -/
namespace Go.Proofs.Ytpahnadbknjepaa.Ex
open Go.Proofs Go.Proofs.Ytpahnadbknjepaa
set_option maxRecDepth 100000
set_option linter.unusedVariables false
set_option linter.unusedSimpArgs false
def stepL33 (y : I) (x : I) (r : I) (z : I)  (lo : Int) (hi : Int) (d : Int) : Int × Int := if fitB d then (if d ≤ z.1 then mx lo d else lo, if d ≥ z.2 then mn hi d else hi) else (lo, hi)
def vL33 (y : I) (x : I) (r : I) (z : I) (l : List Int) (s : Int × Int) : Int × Int := l.foldl (fun s d => stepL33 y x r z  (s.1) (s.2) d) s
theorem runL33 (y : I) (x : I) (r : I) (z : I) (l : List Int) (hl : l.length ≤ 4611686018427387904) (s : Int × Int)  :
    go (iterM 0 keepL33 (FL33 0) (l.length + 1) (TL33 0 (l.length : Nat) l (s.1) (s.2))) (HL33 y x r z) = some ((((3, TL33 (l.length : Nat) (l.length : Nat) l ((vL33 y x r z l s).1) ((vL33 y x r z l s).2)), HL33 y x r z) : Out3)) := by
  have key := range_loop (keep := keepL33) (F := FL33 0) (fun i s => True) l (fun i s => TL33 (i : Nat) (l.length : Nat) l (s.1) (s.2)) (fun i s => HL33 y x r z) (fun _ s d => .inl (stepL33 y x r z  (s.1) (s.2) d)) (fun s => (((3, TL33 (l.length : Nat) (l.length : Nat) l (s.1) (s.2)), HL33 y x r z) : Out3)) ?_ ?_ ?_ ?_ ?_ l 0 s rfl (Nat.zero_le _) trivial
  · rw [runL_inl] at key
    exact key
  · intro i s d hi hd hm hI K
    skip
    rw [rnd33]
    have e1 : decide ((i : Int) < ((l.length : Nat) : Int)) = true := decide_eq_true (by omega)
    have e2 : decide (0 ≤ (i : Int)) = true := decide_eq_true (by omega)
    rw [e1, e2, Int.toNat_natCast, wrap_up hi hl]
    rw [hd]; simp only [optC, cond_true]; unfold stepL33; cases fitB d <;> by_cases h1 : d ≤ z.1 <;> by_cases h2 : d ≥ z.2 <;> simp only [optC, cond_true, cond_false, h1, h2, decide_true, decide_false, if_true, if_false, Bool.not_true, Bool.not_false] <;> rfl
  · intros; trivial
  · intro i s d x e; cases e
  · intro s K
    rw [rnd33]
    have e1 : decide (((l.length : Nat) : Int) < ((l.length : Nat) : Int)) = false := decide_eq_false (by omega)
    rw [e1]
    rfl
  · intro s; exact nofun
def dT33 : Tm → Option (Int × Int × List Int × Int × Int)
  | [(4, .ptr 0 0), (3, .ptr 1 0), (6, .ptr 2 0), (26, .int .i64 i), (25, .int .i64 n), (24, .sl (.int .i64) l), (7, .ptr 3 0), (8, .int .i64 lo), (9, .int .i64 hi)] => some (i, n, l, lo, hi)
  | _ => none
def dH33 : Hp → Option (I × I × I × I)
  | ⟨[(0, .box [.int .i64 y1, .int .i64 y2]), (1, .box [.int .i64 x1, .int .i64 x2]), (2, .box [.int .i64 r1, .int .i64 r2]), (3, .box [.int .i64 z1, .int .i64 z2])], 4⟩ => some ((y1, y2), (x1, x2), (r1, r2), (z1, z2))
  | _ => none
theorem dT33_some {T : Tm} {t : Int × Int × List Int × Int × Int} (e : dT33 T = some t) : T = TL33 (t.1) (t.2.1) (t.2.2.1) (t.2.2.2.1) (t.2.2.2.2) := by
  unfold dT33 at e
  split at e
  · cases e; rfl
  · cases e
theorem dH33_some {h : Hp} {u : I × I × I × I} (e : dH33 h = some u) : h = HL33 (u.1) (u.2.1) (u.2.2.1) (u.2.2.2) := by
  unfold dH33 at e
  split at e
  · cases e; rfl
  · cases e
def qL33 (base : Nat) (T : Tm) : Prog (Nat × Tm) := match base with
  | 0 => match dT33 T with
    | some t => loopA dH33 (fun u => ((t.1) == 0) && ((t.2.1) == ((t.2.2.1).length : Nat)) && decide (((t.2.2.1).length : Int) ≤ 4611686018427387904)) fun u => (((3, TL33 ((t.2.2.1).length : Nat) ((t.2.2.1).length : Nat) (t.2.2.1) ((vL33 (u.1) (u.2.1) (u.2.2.1) (u.2.2.2) (t.2.2.1) ((t.2.2.2.1), (t.2.2.2.2))).1) ((vL33 (u.1) (u.2.1) (u.2.2.1) (u.2.2.2) (t.2.2.1) ((t.2.2.2.1), (t.2.2.2.2))).2)), HL33 (u.1) (u.2.1) (u.2.2.1) (u.2.2.2)) : Out3)
    | none => .fail
  | _ + 1 => .fail
theorem qgo33 (base : Nat) (T : Tm) (h : Hp) (r : Nat × Tm) (h' : Hp) (e : go (qL33 base T) h = some (r, h')) : ∃ m, go (iterM base keepL33 (FL33 base) m T) h = some (r, h') := by
  unfold qL33 at e
  split at e
  · split at e
    · rename_i t ht
      obtain ⟨u, hu, c, e2⟩ := loopA_go e
      rw [dT33_some ht, dH33_some hu]
      simp only [Bool.and_eq_true, beq_iff_eq, decide_eq_true_eq] at c
      skip
      skip
      obtain ⟨⟨c1, c2⟩, c3⟩ := c
      refine ⟨(t.2.2.1).length + 1, ?_⟩
      rw [c1, c2]
      rw [e2]
      have := runL33 (u.1) (u.2.1) (u.2.2.1) (u.2.2.2) (t.2.2.1) (by omega) ((t.2.2.2.1), (t.2.2.2.2)) 
      exact this
    · cases e
  · cases e
noncomputable def lpL33 (base : Nat) (T : Tm) : Prog (Nat × Tm) := .norm base keepL33 T (qL33 base)
theorem sndL33 : SoundC Try.prog 64 (.loop (bodyX 33 1)) lpL33 :=
  loop_sound (cx := cxW) (cal := evF cxW keeps 3) (kp := keeps 33) (tabOk_of tab_ok) (cmpsOk_of tab_ok cmps_ok) calW mixed (by intro q hq p hp; cases hp) qgo33
def stepL53 (y : I) (x : I) (r : I) (z : I)  (lo : Int) (hi : Int) (d : Int) : Int × Int := (if d ≤ z.1 ∧ d > lo then d else lo, if d ≥ z.2 ∧ d < hi then d else hi)
def vL53 (y : I) (x : I) (r : I) (z : I) (l : List Int) (s : Int × Int) : Int × Int := l.foldl (fun s d => stepL53 y x r z  (s.1) (s.2) d) s
theorem runL53 (y : I) (x : I) (r : I) (z : I) (l : List Int) (hl : l.length ≤ 4611686018427387904) (s : Int × Int)  :
    go (iterM 0 keepL53 (FL53 0) (l.length + 1) (TL53 0 l (s.1) (s.2))) (HL53 y x r z) = some ((((2, TL53 (l.length : Nat) l ((vL53 y x r z l s).1) ((vL53 y x r z l s).2)), HL53 y x r z) : Out3)) := by
  have key := range_loop (keep := keepL53) (F := FL53 0) (fun i s => True) l (fun i s => TL53 (i : Nat) l (s.1) (s.2)) (fun i s => HL53 y x r z) (fun _ s d => .inl (stepL53 y x r z  (s.1) (s.2) d)) (fun s => (((2, TL53 (l.length : Nat) l (s.1) (s.2)), HL53 y x r z) : Out3)) ?_ ?_ ?_ ?_ ?_ l 0 s rfl (Nat.zero_le _) trivial
  · rw [runL_inl] at key
    exact key
  · intro i s d hi hd hm hI K
    skip
    rw [rnd53]
    have e1 : decide ((i : Int) < ((l.length : Nat) : Int)) = true := decide_eq_true (by omega)
    have e2 : decide (0 ≤ (i : Int)) = true := decide_eq_true (by omega)
    rw [e1, e2, Int.toNat_natCast, wrap_up hi hl]
    rw [hd]; simp only [optC, cond_true]; unfold stepL53; by_cases h1 : d ≤ z.1 <;> by_cases h2 : d ≥ z.2 <;> by_cases h3 : d > s.1 <;> by_cases h4 : d < s.2 <;> simp only [optC, cond_true, cond_false, h1, h2, decide_true, decide_false, if_true, if_false, Bool.not_true, Bool.not_false, h3, h4, and_self, and_true, true_and, and_false, false_and] <;> rfl
  · intros; trivial
  · intro i s d x e; cases e
  · intro s K
    rw [rnd53]
    have e1 : decide (((l.length : Nat) : Int) < ((l.length : Nat) : Int)) = false := decide_eq_false (by omega)
    rw [e1]
    rfl
  · intro s; exact nofun
def dT53 : Tm → Option (Int × List Int × Int × Int)
  | [(4, .ptr 0 0), (3, .ptr 1 0), (6, .ptr 2 0), (10, .int .i64 i), (2, .sl (.int .i64) l), (7, .ptr 3 0), (8, .int .i64 lo), (9, .int .i64 hi)] => some (i, l, lo, hi)
  | _ => none
def dH53 : Hp → Option (I × I × I × I)
  | ⟨[(0, .box [.int .i64 y1, .int .i64 y2]), (1, .box [.int .i64 x1, .int .i64 x2]), (2, .box [.int .i64 r1, .int .i64 r2]), (3, .box [.int .i64 z1, .int .i64 z2])], 4⟩ => some ((y1, y2), (x1, x2), (r1, r2), (z1, z2))
  | _ => none
theorem dT53_some {T : Tm} {t : Int × List Int × Int × Int} (e : dT53 T = some t) : T = TL53 (t.1) (t.2.1) (t.2.2.1) (t.2.2.2) := by
  unfold dT53 at e
  split at e
  · cases e; rfl
  · cases e
theorem dH53_some {h : Hp} {u : I × I × I × I} (e : dH53 h = some u) : h = HL53 (u.1) (u.2.1) (u.2.2.1) (u.2.2.2) := by
  unfold dH53 at e
  split at e
  · cases e; rfl
  · cases e
def qL53 (base : Nat) (T : Tm) : Prog (Nat × Tm) := match base with
  | 0 => match dT53 T with
    | some t => loopA dH53 (fun u => ((t.1) == 0) && decide (((t.2.1).length : Int) ≤ 4611686018427387904)) fun u => (((2, TL53 ((t.2.1).length : Nat) (t.2.1) ((vL53 (u.1) (u.2.1) (u.2.2.1) (u.2.2.2) (t.2.1) ((t.2.2.1), (t.2.2.2))).1) ((vL53 (u.1) (u.2.1) (u.2.2.1) (u.2.2.2) (t.2.1) ((t.2.2.1), (t.2.2.2))).2)), HL53 (u.1) (u.2.1) (u.2.2.1) (u.2.2.2)) : Out3)
    | none => .fail
  | _ + 1 => .fail
theorem qgo53 (base : Nat) (T : Tm) (h : Hp) (r : Nat × Tm) (h' : Hp) (e : go (qL53 base T) h = some (r, h')) : ∃ m, go (iterM base keepL53 (FL53 base) m T) h = some (r, h') := by
  unfold qL53 at e
  split at e
  · split at e
    · rename_i t ht
      obtain ⟨u, hu, c, e2⟩ := loopA_go e
      rw [dT53_some ht, dH53_some hu]
      simp only [Bool.and_eq_true, beq_iff_eq, decide_eq_true_eq] at c
      skip
      skip
      obtain ⟨c1, c3⟩ := c
      refine ⟨(t.2.1).length + 1, ?_⟩
      rw [c1]
      rw [e2]
      have := runL53 (u.1) (u.2.1) (u.2.2.1) (u.2.2.2) (t.2.1) (by omega) ((t.2.2.1), (t.2.2.2)) 
      exact this
    · cases e
  · cases e
noncomputable def lpL53 (base : Nat) (T : Tm) : Prog (Nat × Tm) := .norm base keepL53 T (qL53 base)
theorem sndL53 : SoundC Try.prog 66 (.loop (bodyX 53 0)) lpL53 :=
  loop_sound (cx := cxW) (cal := evF cxW keeps 3) (kp := keeps 53) (tabOk_of tab_ok) (cmpsOk_of tab_ok cmps_ok) calW mixed (by intro q hq p hp; cases hp) qgo53
end Go.Proofs.Ytpahnadbknjepaa.Ex

/- Contracts, level 11. -/
namespace Go.Proofs.Ytpahnadbknjepaa.Ex
open Go.Proofs Go.Proofs.Ytpahnadbknjepaa
set_option maxRecDepth 100000
set_option linter.unusedSimpArgs false
set_option linter.unusedVariables false
def widS (z : I) (l : List Int) : I := l.foldl (fun s d => if fitB d then (if d ≤ z.1 then mx s.1 d else s.1, if d ≥ z.2 then mn s.2 d else s.2) else (s.1, s.2)) aa
def rwidS (z : I) (l : List Int) : I := l.foldl (fun s d => (if d ≤ z.1 ∧ d > s.1 then d else s.1, if d ≥ z.2 ∧ d < s.2 then d else s.2)) aa
def widV (x y : I) (l : List Int) : I := if empB y then x else if empB x then y else
  (if (iJoin x y).1 < x.1 then (widS (iJoin x y) l).1 else (iJoin x y).1, if (iJoin x y).2 > x.2 then (widS (iJoin x y) l).2 else (iJoin x y).2)
def rwidV (x y : I) (l : List Int) : I := if empB y then x else if empB x then y else
  (if (rJoin x y).1 < x.1 then (rwidS (rJoin x y) l).1 else (rJoin x y).1, if (rJoin x y).2 > x.2 then (rwidS (rJoin x y) l).2 else (rJoin x y).2)
def aK (l : List Int) : AV := .clo 32 [] [.view [.sl (.int .i64) l] 0]
def gK : AV → Option (List Int)
  | .clo 32 [] [.view [.sl (.int .i64) l] 0] => some l
  | _ => none
theorem gK_some {v : AV} {x : List Int} (e : gK v = some x) : v = aK x := by
  unfold gK at e
  split at e
  · cases e; rfl
  · cases e
def sp11 : Nat → Option (List AV → Prog AV)
  | 46 => some (specP true M46)
  | 55 => some (specP true M55)
  | 45 => some (specP true M45)
  | 37 => some (specP true M37)
  | 38 => some (specP true M38)
  | 31 => some (specP true M31)
  | 36 => some (specP true M36)
  | 43 => some (specP true M43)
  | 44 => some (specP true M44)
  | 50 => some (specP true M50)
  | 54 => some (specP true M54)
  | 20 => some (specP true M20)
  | 39 => some (specP true M39)
  | 26 => some (specP true M26)
  | 52 => some (specP true M52)
  | 51 => some (specP true M51)
  | 40 => some (specP true M40)
  | 29 => some (specP true M29)
  | 42 => some (specP true M42j)
  | 21 => some (specP true M21)
  | 24 => some (specP true M24j)
  | 9 => some (specP true M9)
  | 41 => some (cloneP 16 tI)
  | 23 => some (specP true M23)
  | 11 => some (pickS isNil1 (specP true M11N) (specP true M11L))
  | _ => none
noncomputable def lp11 : Nat → Nat → Option (Nat → Tm → Prog (Nat × Tm))
  | 33, 1 => some lpL33
  | 53, 0 => some lpL53
  | _, _ => none
noncomputable def cx11 : Ctx := { tab := tab, spec := sp11, inl := inl, lps := lp11, fuel := 10 }
theorem hsp11 : ∀ g p, cx11.spec g = some p → SoundA Try.prog g p := by
  intro g p h
  change sp11 g = some p at h
  unfold sp11 at h
  split at h
  · cases h; exact snd46
  · cases h; exact snd55
  · cases h; exact snd45
  · cases h; exact snd37
  · cases h; exact snd38
  · cases h; exact snd31
  · cases h; exact snd36
  · cases h; exact snd43
  · cases h; exact snd44
  · cases h; exact snd50
  · cases h; exact snd54
  · cases h; exact snd20
  · cases h; exact snd39
  · cases h; exact snd26
  · cases h; exact snd52
  · cases h; exact snd51
  · cases h; exact snd40
  · cases h; exact snd29
  · cases h; exact snd42
  · cases h; exact snd21
  · cases h; exact snd24
  · cases h; exact snd9
  · cases h; exact sndClone
  · cases h; exact snd23
  · cases h; exact (SoundA.pick isNil1 snd11 snd11L)
  · cases h
theorem in11 : InlOk Try.prog cx11 := ⟨inl_ok, fun g fn c hg hb q hq p hp => by
  change lp11 g q.1 = some p at hp
  change inl g = some fn at hg
  generalize hq1 : q.1 = b at hp
  unfold lp11 at hp
  split at hp
  · cases hp; exact lps_case (inl := inl) hg hb hq hq1 (by kernel_rfl) (by kernel_rfl) sndL33
  · cases hp; exact lps_case (inl := inl) hg hb hq hq1 (by kernel_rfl) (by kernel_rfl) sndL53
  · cases hp⟩
theorem cal11 (g : Nat) : SoundA Try.prog g (evF cx11 keeps 3 g) := evF_sound (tabOk_of tab_ok) (cmpsOk_of tab_ok cmps_ok) mixed in11 hsp11 keeps 3 g
end Go.Proofs.Ytpahnadbknjepaa.Ex

/- What is run, level 11. -/
namespace Go.Proofs.Ytpahnadbknjepaa.Ex
open Go.Proofs Go.Proofs.Ytpahnadbknjepaa
set_option maxRecDepth 100000
theorem raw33 (x : I) (y : I) (l : List Int) : ev cx11 33 [aI x, aI y, aLi l] =
  bif Go.Proofs.Ytpahnadbknjepaa.Ex.empB y then Option.some (Go.Proofs.Ytpahnadbknjepaa.Ex.AV.agg [Go.Proofs.Ytpahnadbknjepaa.Ex.AV.int Go.IntKind.i64 x.fst, Go.Proofs.Ytpahnadbknjepaa.Ex.AV.int Go.IntKind.i64 x.snd], { blks := [], c := 0 })
  else
    bif Go.Proofs.Ytpahnadbknjepaa.Ex.empB x then Option.some (Go.Proofs.Ytpahnadbknjepaa.Ex.AV.agg [Go.Proofs.Ytpahnadbknjepaa.Ex.AV.int Go.IntKind.i64 y.fst, Go.Proofs.Ytpahnadbknjepaa.Ex.AV.int Go.IntKind.i64 y.snd], { blks := [], c := 0 })
    else
      bif 0 == 0 && (↑l.length : Int) == (↑l.length : Int) && Decidable.decide ((↑l.length : Int) ≤ 4611686018427387904) then
        bif Decidable.decide ((Go.Proofs.Ytpahnadbknjepaa.Ex.iJoin x y).fst < x.fst) then
          bif Decidable.decide ((Go.Proofs.Ytpahnadbknjepaa.Ex.iJoin x y).snd > x.snd) then
            Option.some
              (Go.Proofs.Ytpahnadbknjepaa.Ex.AV.agg
                  [Go.Proofs.Ytpahnadbknjepaa.Ex.AV.int Go.IntKind.i64 (Go.Proofs.Ytpahnadbknjepaa.Ex.vL33 y x (0, 0) (Go.Proofs.Ytpahnadbknjepaa.Ex.iJoin x y) l (-2147483648, 2147483647)).fst,
                    Go.Proofs.Ytpahnadbknjepaa.Ex.AV.int Go.IntKind.i64 (Go.Proofs.Ytpahnadbknjepaa.Ex.vL33 y x (0, 0) (Go.Proofs.Ytpahnadbknjepaa.Ex.iJoin x y) l (-2147483648, 2147483647)).snd],
                { blks := [], c := 0 })
          else
            Option.some
              (Go.Proofs.Ytpahnadbknjepaa.Ex.AV.agg [Go.Proofs.Ytpahnadbknjepaa.Ex.AV.int Go.IntKind.i64 (Go.Proofs.Ytpahnadbknjepaa.Ex.vL33 y x (0, 0) (Go.Proofs.Ytpahnadbknjepaa.Ex.iJoin x y) l (-2147483648, 2147483647)).fst, Go.Proofs.Ytpahnadbknjepaa.Ex.AV.int Go.IntKind.i64 (Go.Proofs.Ytpahnadbknjepaa.Ex.iJoin x y).snd],
                { blks := [], c := 0 })
        else
          bif Decidable.decide ((Go.Proofs.Ytpahnadbknjepaa.Ex.iJoin x y).snd > x.snd) then
            Option.some
              (Go.Proofs.Ytpahnadbknjepaa.Ex.AV.agg [Go.Proofs.Ytpahnadbknjepaa.Ex.AV.int Go.IntKind.i64 (Go.Proofs.Ytpahnadbknjepaa.Ex.iJoin x y).fst, Go.Proofs.Ytpahnadbknjepaa.Ex.AV.int Go.IntKind.i64 (Go.Proofs.Ytpahnadbknjepaa.Ex.vL33 y x (0, 0) (Go.Proofs.Ytpahnadbknjepaa.Ex.iJoin x y) l (-2147483648, 2147483647)).snd],
                { blks := [], c := 0 })
          else Option.some (Go.Proofs.Ytpahnadbknjepaa.Ex.AV.agg [Go.Proofs.Ytpahnadbknjepaa.Ex.AV.int Go.IntKind.i64 (Go.Proofs.Ytpahnadbknjepaa.Ex.iJoin x y).fst, Go.Proofs.Ytpahnadbknjepaa.Ex.AV.int Go.IntKind.i64 (Go.Proofs.Ytpahnadbknjepaa.Ex.iJoin x y).snd], { blks := [], c := 0 })
      else Option.none := by kernel_rfl
theorem raw53 (x : I) (y : I) (l : List Int) : ev cx11 53 [aI x, aI y, aLi l] =
  bif Go.Proofs.Ytpahnadbknjepaa.Ex.empB y then Option.some (Go.Proofs.Ytpahnadbknjepaa.Ex.AV.agg [Go.Proofs.Ytpahnadbknjepaa.Ex.AV.int Go.IntKind.i64 x.fst, Go.Proofs.Ytpahnadbknjepaa.Ex.AV.int Go.IntKind.i64 x.snd], { blks := [], c := 0 })
  else
    bif Go.Proofs.Ytpahnadbknjepaa.Ex.empB x then Option.some (Go.Proofs.Ytpahnadbknjepaa.Ex.AV.agg [Go.Proofs.Ytpahnadbknjepaa.Ex.AV.int Go.IntKind.i64 y.fst, Go.Proofs.Ytpahnadbknjepaa.Ex.AV.int Go.IntKind.i64 y.snd], { blks := [], c := 0 })
    else
      bif 0 == 0 && Decidable.decide ((↑l.length : Int) ≤ 4611686018427387904) then
        bif Decidable.decide ((Go.Proofs.Ytpahnadbknjepaa.Ex.rJoin x y).fst < x.fst) then
          bif Decidable.decide ((Go.Proofs.Ytpahnadbknjepaa.Ex.rJoin x y).snd > x.snd) then
            Option.some
              (Go.Proofs.Ytpahnadbknjepaa.Ex.AV.agg
                  [Go.Proofs.Ytpahnadbknjepaa.Ex.AV.int Go.IntKind.i64 (Go.Proofs.Ytpahnadbknjepaa.Ex.vL53 y x (0, 0) (Go.Proofs.Ytpahnadbknjepaa.Ex.rJoin x y) l (-2147483648, 2147483647)).fst,
                    Go.Proofs.Ytpahnadbknjepaa.Ex.AV.int Go.IntKind.i64 (Go.Proofs.Ytpahnadbknjepaa.Ex.vL53 y x (0, 0) (Go.Proofs.Ytpahnadbknjepaa.Ex.rJoin x y) l (-2147483648, 2147483647)).snd],
                { blks := [], c := 0 })
          else
            Option.some
              (Go.Proofs.Ytpahnadbknjepaa.Ex.AV.agg [Go.Proofs.Ytpahnadbknjepaa.Ex.AV.int Go.IntKind.i64 (Go.Proofs.Ytpahnadbknjepaa.Ex.vL53 y x (0, 0) (Go.Proofs.Ytpahnadbknjepaa.Ex.rJoin x y) l (-2147483648, 2147483647)).fst, Go.Proofs.Ytpahnadbknjepaa.Ex.AV.int Go.IntKind.i64 (Go.Proofs.Ytpahnadbknjepaa.Ex.rJoin x y).snd],
                { blks := [], c := 0 })
        else
          bif Decidable.decide ((Go.Proofs.Ytpahnadbknjepaa.Ex.rJoin x y).snd > x.snd) then
            Option.some
              (Go.Proofs.Ytpahnadbknjepaa.Ex.AV.agg [Go.Proofs.Ytpahnadbknjepaa.Ex.AV.int Go.IntKind.i64 (Go.Proofs.Ytpahnadbknjepaa.Ex.rJoin x y).fst, Go.Proofs.Ytpahnadbknjepaa.Ex.AV.int Go.IntKind.i64 (Go.Proofs.Ytpahnadbknjepaa.Ex.vL53 y x (0, 0) (Go.Proofs.Ytpahnadbknjepaa.Ex.rJoin x y) l (-2147483648, 2147483647)).snd],
                { blks := [], c := 0 })
          else Option.some (Go.Proofs.Ytpahnadbknjepaa.Ex.AV.agg [Go.Proofs.Ytpahnadbknjepaa.Ex.AV.int Go.IntKind.i64 (Go.Proofs.Ytpahnadbknjepaa.Ex.rJoin x y).fst, Go.Proofs.Ytpahnadbknjepaa.Ex.AV.int Go.IntKind.i64 (Go.Proofs.Ytpahnadbknjepaa.Ex.rJoin x y).snd], { blks := [], c := 0 })
      else Option.none := by kernel_rfl
end Go.Proofs.Ytpahnadbknjepaa.Ex

/- Contracts, level 11. -/
namespace Go.Proofs.Ytpahnadbknjepaa.Ex
open Go.Proofs Go.Proofs.Ytpahnadbknjepaa
set_option maxRecDepth 100000
set_option linter.unusedSimpArgs false
set_option linter.unusedVariables false
theorem ok33 (x : I) (y : I) (l : List Int) (hp : okLen l = true) : ev cx11 33 [aI x, aI y, aLi l] = outV (aI (widV x y l)) := by
  rw [raw33]
  unfold okLen at hp; unfold widV; rw [hp]; cases empB y <;> cases empB x <;> simp only [cond_true, cond_false, Bool.and_true, beq_self_eq_true, if_true, if_false, Bool.false_eq_true] <;> first | rfl | skip
  by_cases h1 : (iJoin x y).1 < x.1 <;> by_cases h2 : (iJoin x y).2 > x.2 <;> simp only [h1, h2, if_true, if_false, decide_true, decide_false, cond_true, cond_false] <;> rfl
theorem ok53 (x : I) (y : I) (l : List Int) (hp : okLen l = true) : ev cx11 53 [aI x, aI y, aLi l] = outV (aI (rwidV x y l)) := by
  rw [raw53]
  unfold okLen at hp; unfold rwidV; rw [hp]; cases empB y <;> cases empB x <;> simp only [cond_true, cond_false, Bool.and_true, beq_self_eq_true, if_true, if_false, Bool.false_eq_true] <;> first | rfl | skip
  by_cases h1 : (rJoin x y).1 < x.1 <;> by_cases h2 : (rJoin x y).2 > x.2 <;> simp only [h1, h2, if_true, if_false, decide_true, decide_false, cond_true, cond_false] <;> rfl
def M33 : List AV → Option (Bool × AV × List Blk)
  | [v_x, v_y, v_l] => (gI v_x).bind fun x => (gI v_y).bind fun y => (gLi v_l).bind fun l => some (okLen l, aI (widV x y l), [])
  | _ => none
theorem hM33 (args : List AV) (v : AV) (bs : List Blk) (h : M33 args = some (true, v, bs)) : AV.idsL args = [] ∧ (true = true ∨ (plainV v = true ∧ bs.all plainB = true)) ∧ ∃ fb, ex ((evF cx11 keeps 3 33 args).bind (finP true)) false ⟨[], 0⟩ ⟨[], []⟩ = some (v, ⟨enumB 0 bs, bs.length⟩, fb) := by
  unfold M33 at h
  split at h
  · obtain ⟨x, h_x, h0⟩ := Option.bind_eq_some_iff.1 h
    obtain ⟨y, h_y, h1⟩ := Option.bind_eq_some_iff.1 h0
    obtain ⟨l, h_l, h2⟩ := Option.bind_eq_some_iff.1 h1
    simp only [Option.some.injEq, Prod.mk.injEq] at h2
    obtain ⟨hp, rfl, rfl⟩ := h2
    have e_x := gI_some h_x
    have e_y := gI_some h_y
    have e_l := gLi_some h_l
    subst e_x e_y e_l
    exact ⟨rfl, .inl rfl, ev_ex (ok33 x y l hp)⟩
  · cases h
theorem snd33 : SoundA Try.prog 33 (specP true M33) := soundA_spec (fz := true) (cal11 33) hM33
def M53 : List AV → Option (Bool × AV × List Blk)
  | [v_x, v_y, v_l] => (gI v_x).bind fun x => (gI v_y).bind fun y => (gLi v_l).bind fun l => some (okLen l, aI (rwidV x y l), [])
  | _ => none
theorem hM53 (args : List AV) (v : AV) (bs : List Blk) (h : M53 args = some (true, v, bs)) : AV.idsL args = [] ∧ (true = true ∨ (plainV v = true ∧ bs.all plainB = true)) ∧ ∃ fb, ex ((evF cx11 keeps 3 53 args).bind (finP true)) false ⟨[], 0⟩ ⟨[], []⟩ = some (v, ⟨enumB 0 bs, bs.length⟩, fb) := by
  unfold M53 at h
  split at h
  · obtain ⟨x, h_x, h0⟩ := Option.bind_eq_some_iff.1 h
    obtain ⟨y, h_y, h1⟩ := Option.bind_eq_some_iff.1 h0
    obtain ⟨l, h_l, h2⟩ := Option.bind_eq_some_iff.1 h1
    simp only [Option.some.injEq, Prod.mk.injEq] at h2
    obtain ⟨hp, rfl, rfl⟩ := h2
    have e_x := gI_some h_x
    have e_y := gI_some h_y
    have e_l := gLi_some h_l
    subst e_x e_y e_l
    exact ⟨rfl, .inl rfl, ev_ex (ok53 x y l hp)⟩
  · cases h
theorem snd53 : SoundA Try.prog 53 (specP true M53) := soundA_spec (fz := true) (cal11 53) hM53
end Go.Proofs.Ytpahnadbknjepaa.Ex

