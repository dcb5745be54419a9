/- A part of the proofs of the laws of intervals: XF. -/
import Derived.Test.YtcmmchpofkoddaaXE
/- More of what is asked. -/
namespace Go.Proofs.Ytcmmchpofkoddaa.Ex
def mSpan (x y : I) : I := iSpan (mx x.1 y.1) (mn x.2 y.2)
def clipV (a b : Int) : I := iSpan (mx a (-2147483648)) (mn b 2147483647)
def clipO (a b : Int) : Bool := decide (a < -2147483648) || decide (b > 2147483647)
def oth (x y : I) : I := if y.1 = y.2 then iSpan (if y.1 = x.1 then x.1 + 1 else x.1) (if y.1 = x.2 then x.2 - 1 else x.2) else x
def notR (r : Int) : Int := if r = 1 then 5 else if r = 2 then 6 else if r = 3 then 4 else if r = 4 then 3 else if r = 5 then 1 else if r = 6 then 2 else r
def turnR (r : Int) : Int := if r = 1 then 6 else if r = 2 then 5 else if r = 5 then 2 else if r = 6 then 1 else r
def both (x y c d : I) : I × I := if empB x || empB y || empB c || empB d then (nn, nn) else (c, d)
def refI (r : Int) (x y : I) : I × I :=
  if r = 1 then both x y (x.1, mn x.2 (y.2 - 1)) (mx y.1 (x.1 + 1), y.2)
  else if r = 2 then both x y (x.1, mn x.2 y.2) (mx y.1 x.1, y.2)
  else if r = 5 then both x y (mx x.1 y.1, x.2) (y.1, mn y.2 x.2)
  else if r = 6 then both x y (mx x.1 (y.1 + 1), x.2) (y.1, mn y.2 (x.2 - 1))
  else if r = 3 then both x y (iMeet x y) (iMeet x y)
  else if r = 4 then both x y (wout x y) (wout y x)
  else (nn, nn)
end Go.Proofs.Ytcmmchpofkoddaa.Ex

/- Contracts, level 2. -/
namespace Go.Proofs.Ytcmmchpofkoddaa.Ex
open Go.Proofs Go.Proofs.Ytcmmchpofkoddaa
set_option maxRecDepth 100000
set_option linter.unusedSimpArgs false
set_option linter.unusedVariables false
def sp2 : Nat → Option (List AV → Prog AV)
  | 31 => some (specP true M31)
  | 20 => some (specP true M20)
  | 39 => some (specP true M39)
  | 51 => some (specP true M51)
  | 37 => some (specP true M37)
  | 38 => some (specP true M38)
  | 29 => some (specP true M29)
  | 23 => some (specP true M23)
  | 33 => some (specP true M33)
  | 58 => some (specP true M58)
  | 26 => some (specP true M26)
  | 27 => some (specP true M27)
  | 34 => some (specP true M34)
  | 24 => some (specP true M24)
  | 28 => some (specP true M28)
  | 57 => some (specP true M57)
  | 25 => some (specP true M25)
  | 21 => some (specP true M21)
  | 22 => some (specP true M22)
  | 41 => some (specP true M41)
  | 59 => some (specP true M59)
  | 50 => some (specP true M50)
  | _ => none
noncomputable def cx2 : Ctx := { tab := tab, spec := sp2, inl := inl, lps := fun _ _ => none, fuel := 10 }
theorem hsp2 : ∀ g p, cx2.spec g = some p → SoundA Try.prog g p := by
  intro g p h
  change sp2 g = some p at h
  unfold sp2 at h
  split at h
  · cases h; exact snd31
  · cases h; exact snd20
  · cases h; exact snd39
  · cases h; exact snd51
  · cases h; exact snd37
  · cases h; exact snd38
  · cases h; exact snd29
  · cases h; exact snd23
  · cases h; exact snd33
  · cases h; exact snd58
  · cases h; exact snd26
  · cases h; exact snd27
  · cases h; exact snd34
  · cases h; exact snd24
  · cases h; exact snd28
  · cases h; exact snd57
  · cases h; exact snd25
  · cases h; exact snd21
  · cases h; exact snd22
  · cases h; exact snd41
  · cases h; exact snd59
  · cases h; exact snd50
  · cases h
theorem in2 : InlOk Try.prog cx2 := ⟨inl_ok, fun _ _ _ _ _ _ _ _ h => nomatch h⟩
theorem cal2 (g : Nat) : SoundA Try.prog g (evF cx2 keeps 3 g) := evF_sound (tabOk_of tab_ok) (cmpsOk_of tab_ok cmps_ok) mixed in2 hsp2 keeps 3 g
end Go.Proofs.Ytcmmchpofkoddaa.Ex

/- What is run, level 2. -/
namespace Go.Proofs.Ytcmmchpofkoddaa.Ex
open Go.Proofs Go.Proofs.Ytcmmchpofkoddaa
set_option maxRecDepth 100000
theorem raw16 (x : I) (y : I) : ev cx2 16 [aI x, aI y] =
  bif Go.Proofs.Ytcmmchpofkoddaa.Ex.isB x then Option.some (Go.Proofs.Ytcmmchpofkoddaa.Ex.AV.bool (Go.Proofs.Ytcmmchpofkoddaa.Ex.isB y), { blks := [], c := 0 }) else Option.some (Go.Proofs.Ytcmmchpofkoddaa.Ex.AV.bool Bool.false, { blks := [], c := 0 }) := by kernel_rfl
theorem raw35 (x : I) (y : I) : ev cx2 35 [aI x, aI y] =
  Option.some
    (Go.Proofs.Ytcmmchpofkoddaa.Ex.AV.agg
        [Go.Proofs.Ytcmmchpofkoddaa.Ex.AV.int Go.IntKind.i64 (Go.Proofs.Ytcmmchpofkoddaa.Ex.iSpan (if y.fst > x.fst then y.fst else x.fst) (if y.snd < x.snd then y.snd else x.snd)).fst,
          Go.Proofs.Ytcmmchpofkoddaa.Ex.AV.int Go.IntKind.i64 (Go.Proofs.Ytcmmchpofkoddaa.Ex.iSpan (if y.fst > x.fst then y.fst else x.fst) (if y.snd < x.snd then y.snd else x.snd)).snd],
      { blks := [], c := 0 }) := by kernel_rfl
theorem raw47M (x : I) (y : I) : ev cx2 47 [aI x, aI y, .clo 48 [] []] =
  Option.some
    (Go.Proofs.Ytcmmchpofkoddaa.Ex.AV.agg
        [Go.Proofs.Ytcmmchpofkoddaa.Ex.AV.int Go.IntKind.i64
            (if
                Go.IntKind.i64.wrap (x.snd * y.snd) <
                  if
                      Go.IntKind.i64.wrap (x.snd * y.fst) <
                        if Go.IntKind.i64.wrap (x.fst * y.snd) < Go.IntKind.i64.wrap (x.fst * y.fst) then Go.IntKind.i64.wrap (x.fst * y.snd) else Go.IntKind.i64.wrap (x.fst * y.fst) then
                    Go.IntKind.i64.wrap (x.snd * y.fst)
                  else if Go.IntKind.i64.wrap (x.fst * y.snd) < Go.IntKind.i64.wrap (x.fst * y.fst) then Go.IntKind.i64.wrap (x.fst * y.snd) else Go.IntKind.i64.wrap (x.fst * y.fst) then
              Go.IntKind.i64.wrap (x.snd * y.snd)
            else
              if
                  Go.IntKind.i64.wrap (x.snd * y.fst) <
                    if Go.IntKind.i64.wrap (x.fst * y.snd) < Go.IntKind.i64.wrap (x.fst * y.fst) then Go.IntKind.i64.wrap (x.fst * y.snd) else Go.IntKind.i64.wrap (x.fst * y.fst) then
                Go.IntKind.i64.wrap (x.snd * y.fst)
              else if Go.IntKind.i64.wrap (x.fst * y.snd) < Go.IntKind.i64.wrap (x.fst * y.fst) then Go.IntKind.i64.wrap (x.fst * y.snd) else Go.IntKind.i64.wrap (x.fst * y.fst)),
          Go.Proofs.Ytcmmchpofkoddaa.Ex.AV.int Go.IntKind.i64
            (if
                Go.IntKind.i64.wrap (x.snd * y.snd) >
                  if
                      Go.IntKind.i64.wrap (x.snd * y.fst) >
                        if Go.IntKind.i64.wrap (x.fst * y.snd) > Go.IntKind.i64.wrap (x.fst * y.fst) then Go.IntKind.i64.wrap (x.fst * y.snd) else Go.IntKind.i64.wrap (x.fst * y.fst) then
                    Go.IntKind.i64.wrap (x.snd * y.fst)
                  else if Go.IntKind.i64.wrap (x.fst * y.snd) > Go.IntKind.i64.wrap (x.fst * y.fst) then Go.IntKind.i64.wrap (x.fst * y.snd) else Go.IntKind.i64.wrap (x.fst * y.fst) then
              Go.IntKind.i64.wrap (x.snd * y.snd)
            else
              if
                  Go.IntKind.i64.wrap (x.snd * y.fst) >
                    if Go.IntKind.i64.wrap (x.fst * y.snd) > Go.IntKind.i64.wrap (x.fst * y.fst) then Go.IntKind.i64.wrap (x.fst * y.snd) else Go.IntKind.i64.wrap (x.fst * y.fst) then
                Go.IntKind.i64.wrap (x.snd * y.fst)
              else if Go.IntKind.i64.wrap (x.fst * y.snd) > Go.IntKind.i64.wrap (x.fst * y.fst) then Go.IntKind.i64.wrap (x.fst * y.snd) else Go.IntKind.i64.wrap (x.fst * y.fst))],
      { blks := [], c := 0 }) := by kernel_rfl
theorem raw47D (x : I) (y : I) : ev cx2 47 [aI x, aI y, .clo 61 [] []] =
  bif Decidable.decide (y.fst = 0) then Option.none
  else
    bif Decidable.decide (y.snd = 0) then Option.none
    else
      bif Decidable.decide (y.fst = 0) then Option.none
      else
        bif Decidable.decide (y.snd = 0) then Option.none
        else
          Option.some
            (Go.Proofs.Ytcmmchpofkoddaa.Ex.AV.agg
                [Go.Proofs.Ytcmmchpofkoddaa.Ex.AV.int Go.IntKind.i64
                    (if
                        Go.IntKind.i64.wrap (x.snd.tdiv y.snd) <
                          if
                              Go.IntKind.i64.wrap (x.snd.tdiv y.fst) <
                                if Go.IntKind.i64.wrap (x.fst.tdiv y.snd) < Go.IntKind.i64.wrap (x.fst.tdiv y.fst) then Go.IntKind.i64.wrap (x.fst.tdiv y.snd)
                                else Go.IntKind.i64.wrap (x.fst.tdiv y.fst) then
                            Go.IntKind.i64.wrap (x.snd.tdiv y.fst)
                          else
                            if Go.IntKind.i64.wrap (x.fst.tdiv y.snd) < Go.IntKind.i64.wrap (x.fst.tdiv y.fst) then Go.IntKind.i64.wrap (x.fst.tdiv y.snd)
                            else Go.IntKind.i64.wrap (x.fst.tdiv y.fst) then
                      Go.IntKind.i64.wrap (x.snd.tdiv y.snd)
                    else
                      if
                          Go.IntKind.i64.wrap (x.snd.tdiv y.fst) <
                            if Go.IntKind.i64.wrap (x.fst.tdiv y.snd) < Go.IntKind.i64.wrap (x.fst.tdiv y.fst) then Go.IntKind.i64.wrap (x.fst.tdiv y.snd)
                            else Go.IntKind.i64.wrap (x.fst.tdiv y.fst) then
                        Go.IntKind.i64.wrap (x.snd.tdiv y.fst)
                      else if Go.IntKind.i64.wrap (x.fst.tdiv y.snd) < Go.IntKind.i64.wrap (x.fst.tdiv y.fst) then Go.IntKind.i64.wrap (x.fst.tdiv y.snd) else Go.IntKind.i64.wrap (x.fst.tdiv y.fst)),
                  Go.Proofs.Ytcmmchpofkoddaa.Ex.AV.int Go.IntKind.i64
                    (if
                        Go.IntKind.i64.wrap (x.snd.tdiv y.snd) >
                          if
                              Go.IntKind.i64.wrap (x.snd.tdiv y.fst) >
                                if Go.IntKind.i64.wrap (x.fst.tdiv y.snd) > Go.IntKind.i64.wrap (x.fst.tdiv y.fst) then Go.IntKind.i64.wrap (x.fst.tdiv y.snd)
                                else Go.IntKind.i64.wrap (x.fst.tdiv y.fst) then
                            Go.IntKind.i64.wrap (x.snd.tdiv y.fst)
                          else
                            if Go.IntKind.i64.wrap (x.fst.tdiv y.snd) > Go.IntKind.i64.wrap (x.fst.tdiv y.fst) then Go.IntKind.i64.wrap (x.fst.tdiv y.snd)
                            else Go.IntKind.i64.wrap (x.fst.tdiv y.fst) then
                      Go.IntKind.i64.wrap (x.snd.tdiv y.snd)
                    else
                      if
                          Go.IntKind.i64.wrap (x.snd.tdiv y.fst) >
                            if Go.IntKind.i64.wrap (x.fst.tdiv y.snd) > Go.IntKind.i64.wrap (x.fst.tdiv y.fst) then Go.IntKind.i64.wrap (x.fst.tdiv y.snd)
                            else Go.IntKind.i64.wrap (x.fst.tdiv y.fst) then
                        Go.IntKind.i64.wrap (x.snd.tdiv y.fst)
                      else if Go.IntKind.i64.wrap (x.fst.tdiv y.snd) > Go.IntKind.i64.wrap (x.fst.tdiv y.fst) then Go.IntKind.i64.wrap (x.fst.tdiv y.snd) else Go.IntKind.i64.wrap (x.fst.tdiv y.fst))],
              { blks := [], c := 0 }) := by kernel_rfl
theorem raw52 (a : Int) (b : Int) : ev cx2 52 [aN a, aN b] =
  bif Decidable.decide (a < -2147483648) then
    Option.some
      (Go.Proofs.Ytcmmchpofkoddaa.Ex.AV.tup
          [Go.Proofs.Ytcmmchpofkoddaa.Ex.AV.agg
              [Go.Proofs.Ytcmmchpofkoddaa.Ex.AV.int Go.IntKind.i64 (Go.Proofs.Ytcmmchpofkoddaa.Ex.iSpan (if -2147483648 > a then -2147483648 else a) (if 2147483647 < b then 2147483647 else b)).fst,
                Go.Proofs.Ytcmmchpofkoddaa.Ex.AV.int Go.IntKind.i64 (Go.Proofs.Ytcmmchpofkoddaa.Ex.iSpan (if -2147483648 > a then -2147483648 else a) (if 2147483647 < b then 2147483647 else b)).snd],
            Go.Proofs.Ytcmmchpofkoddaa.Ex.AV.bool Bool.true],
        { blks := [], c := 0 })
  else
    Option.some
      (Go.Proofs.Ytcmmchpofkoddaa.Ex.AV.tup
          [Go.Proofs.Ytcmmchpofkoddaa.Ex.AV.agg
              [Go.Proofs.Ytcmmchpofkoddaa.Ex.AV.int Go.IntKind.i64 (Go.Proofs.Ytcmmchpofkoddaa.Ex.iSpan (if -2147483648 > a then -2147483648 else a) (if 2147483647 < b then 2147483647 else b)).fst,
                Go.Proofs.Ytcmmchpofkoddaa.Ex.AV.int Go.IntKind.i64 (Go.Proofs.Ytcmmchpofkoddaa.Ex.iSpan (if -2147483648 > a then -2147483648 else a) (if 2147483647 < b then 2147483647 else b)).snd],
            Go.Proofs.Ytcmmchpofkoddaa.Ex.AV.bool (Decidable.decide (b > 2147483647))],
        { blks := [], c := 0 }) := by kernel_rfl
theorem raw60 (x : I) (y : I) : ev cx2 60 [aI x, aI y] =
  bif y.fst != y.snd then Option.some (Go.Proofs.Ytcmmchpofkoddaa.Ex.AV.agg [Go.Proofs.Ytcmmchpofkoddaa.Ex.AV.int Go.IntKind.i64 x.fst, Go.Proofs.Ytcmmchpofkoddaa.Ex.AV.int Go.IntKind.i64 x.snd], { blks := [], c := 0 })
  else
    bif y.fst == x.fst then
      bif y.fst == x.snd then
        Option.some
          (Go.Proofs.Ytcmmchpofkoddaa.Ex.AV.agg
              [Go.Proofs.Ytcmmchpofkoddaa.Ex.AV.int Go.IntKind.i64 (Go.Proofs.Ytcmmchpofkoddaa.Ex.iSpan (Go.IntKind.i64.wrap (x.fst + 1)) (Go.IntKind.i64.wrap (x.snd - 1))).fst,
                Go.Proofs.Ytcmmchpofkoddaa.Ex.AV.int Go.IntKind.i64 (Go.Proofs.Ytcmmchpofkoddaa.Ex.iSpan (Go.IntKind.i64.wrap (x.fst + 1)) (Go.IntKind.i64.wrap (x.snd - 1))).snd],
            { blks := [], c := 0 })
      else
        Option.some
          (Go.Proofs.Ytcmmchpofkoddaa.Ex.AV.agg [Go.Proofs.Ytcmmchpofkoddaa.Ex.AV.int Go.IntKind.i64 (Go.Proofs.Ytcmmchpofkoddaa.Ex.iSpan (Go.IntKind.i64.wrap (x.fst + 1)) x.snd).fst, Go.Proofs.Ytcmmchpofkoddaa.Ex.AV.int Go.IntKind.i64 (Go.Proofs.Ytcmmchpofkoddaa.Ex.iSpan (Go.IntKind.i64.wrap (x.fst + 1)) x.snd).snd],
            { blks := [], c := 0 })
    else
      bif y.fst == x.snd then
        Option.some
          (Go.Proofs.Ytcmmchpofkoddaa.Ex.AV.agg [Go.Proofs.Ytcmmchpofkoddaa.Ex.AV.int Go.IntKind.i64 (Go.Proofs.Ytcmmchpofkoddaa.Ex.iSpan x.fst (Go.IntKind.i64.wrap (x.snd - 1))).fst, Go.Proofs.Ytcmmchpofkoddaa.Ex.AV.int Go.IntKind.i64 (Go.Proofs.Ytcmmchpofkoddaa.Ex.iSpan x.fst (Go.IntKind.i64.wrap (x.snd - 1))).snd],
            { blks := [], c := 0 })
      else Option.some (Go.Proofs.Ytcmmchpofkoddaa.Ex.AV.agg [Go.Proofs.Ytcmmchpofkoddaa.Ex.AV.int Go.IntKind.i64 (Go.Proofs.Ytcmmchpofkoddaa.Ex.iSpan x.fst x.snd).fst, Go.Proofs.Ytcmmchpofkoddaa.Ex.AV.int Go.IntKind.i64 (Go.Proofs.Ytcmmchpofkoddaa.Ex.iSpan x.fst x.snd).snd], { blks := [], c := 0 }) := by kernel_rfl
theorem raw55 (x : I) (y : I) : ev cx2 55 [aI x, aI y] =
  bif y.fst == 0 then
    bif y.snd == 0 then Option.some (Go.Proofs.Ytcmmchpofkoddaa.Ex.AV.agg [Go.Proofs.Ytcmmchpofkoddaa.Ex.AV.int Go.IntKind.i64 Go.Proofs.Ytcmmchpofkoddaa.Ex.nn.fst, Go.Proofs.Ytcmmchpofkoddaa.Ex.AV.int Go.IntKind.i64 Go.Proofs.Ytcmmchpofkoddaa.Ex.nn.snd], { blks := [], c := 0 })
    else
      bif Decidable.decide (x.fst < 0) then
        bif Decidable.decide (x.snd > 0) then
          Option.some
            (Go.Proofs.Ytcmmchpofkoddaa.Ex.AV.agg
                [Go.Proofs.Ytcmmchpofkoddaa.Ex.AV.int Go.IntKind.i64
                    (if
                        Go.IntKind.i64.wrap
                            (0 -
                              Go.IntKind.i64.wrap
                                ((if
                                      Go.IntKind.i64.wrap (0 - y.snd) >
                                        if y.snd > if Go.IntKind.i64.wrap (0 - y.fst) > y.fst then Go.IntKind.i64.wrap (0 - y.fst) else y.fst then y.snd
                                        else if Go.IntKind.i64.wrap (0 - y.fst) > y.fst then Go.IntKind.i64.wrap (0 - y.fst) else y.fst then
                                    Go.IntKind.i64.wrap (0 - y.snd)
                                  else
                                    if y.snd > if Go.IntKind.i64.wrap (0 - y.fst) > y.fst then Go.IntKind.i64.wrap (0 - y.fst) else y.fst then y.snd
                                    else if Go.IntKind.i64.wrap (0 - y.fst) > y.fst then Go.IntKind.i64.wrap (0 - y.fst) else y.fst) -
                                  1)) >
                          x.fst then
                      Go.IntKind.i64.wrap
                        (0 -
                          Go.IntKind.i64.wrap
                            ((if
                                  Go.IntKind.i64.wrap (0 - y.snd) >
                                    if y.snd > if Go.IntKind.i64.wrap (0 - y.fst) > y.fst then Go.IntKind.i64.wrap (0 - y.fst) else y.fst then y.snd
                                    else if Go.IntKind.i64.wrap (0 - y.fst) > y.fst then Go.IntKind.i64.wrap (0 - y.fst) else y.fst then
                                Go.IntKind.i64.wrap (0 - y.snd)
                              else
                                if y.snd > if Go.IntKind.i64.wrap (0 - y.fst) > y.fst then Go.IntKind.i64.wrap (0 - y.fst) else y.fst then y.snd
                                else if Go.IntKind.i64.wrap (0 - y.fst) > y.fst then Go.IntKind.i64.wrap (0 - y.fst) else y.fst) -
                              1))
                    else x.fst),
                  Go.Proofs.Ytcmmchpofkoddaa.Ex.AV.int Go.IntKind.i64
                    (if
                        Go.IntKind.i64.wrap
                            ((if
                                  Go.IntKind.i64.wrap (0 - y.snd) >
                                    if y.snd > if Go.IntKind.i64.wrap (0 - y.fst) > y.fst then Go.IntKind.i64.wrap (0 - y.fst) else y.fst then y.snd
                                    else if Go.IntKind.i64.wrap (0 - y.fst) > y.fst then Go.IntKind.i64.wrap (0 - y.fst) else y.fst then
                                Go.IntKind.i64.wrap (0 - y.snd)
                              else
                                if y.snd > if Go.IntKind.i64.wrap (0 - y.fst) > y.fst then Go.IntKind.i64.wrap (0 - y.fst) else y.fst then y.snd
                                else if Go.IntKind.i64.wrap (0 - y.fst) > y.fst then Go.IntKind.i64.wrap (0 - y.fst) else y.fst) -
                              1) <
                          x.snd then
                      Go.IntKind.i64.wrap
                        ((if
                              Go.IntKind.i64.wrap (0 - y.snd) >
                                if y.snd > if Go.IntKind.i64.wrap (0 - y.fst) > y.fst then Go.IntKind.i64.wrap (0 - y.fst) else y.fst then y.snd
                                else if Go.IntKind.i64.wrap (0 - y.fst) > y.fst then Go.IntKind.i64.wrap (0 - y.fst) else y.fst then
                            Go.IntKind.i64.wrap (0 - y.snd)
                          else
                            if y.snd > if Go.IntKind.i64.wrap (0 - y.fst) > y.fst then Go.IntKind.i64.wrap (0 - y.fst) else y.fst then y.snd
                            else if Go.IntKind.i64.wrap (0 - y.fst) > y.fst then Go.IntKind.i64.wrap (0 - y.fst) else y.fst) -
                          1)
                    else x.snd)],
              { blks := [], c := 0 })
        else
          Option.some
            (Go.Proofs.Ytcmmchpofkoddaa.Ex.AV.agg
                [Go.Proofs.Ytcmmchpofkoddaa.Ex.AV.int Go.IntKind.i64
                    (if
                        Go.IntKind.i64.wrap
                            (0 -
                              Go.IntKind.i64.wrap
                                ((if
                                      Go.IntKind.i64.wrap (0 - y.snd) >
                                        if y.snd > if Go.IntKind.i64.wrap (0 - y.fst) > y.fst then Go.IntKind.i64.wrap (0 - y.fst) else y.fst then y.snd
                                        else if Go.IntKind.i64.wrap (0 - y.fst) > y.fst then Go.IntKind.i64.wrap (0 - y.fst) else y.fst then
                                    Go.IntKind.i64.wrap (0 - y.snd)
                                  else
                                    if y.snd > if Go.IntKind.i64.wrap (0 - y.fst) > y.fst then Go.IntKind.i64.wrap (0 - y.fst) else y.fst then y.snd
                                    else if Go.IntKind.i64.wrap (0 - y.fst) > y.fst then Go.IntKind.i64.wrap (0 - y.fst) else y.fst) -
                                  1)) >
                          x.fst then
                      Go.IntKind.i64.wrap
                        (0 -
                          Go.IntKind.i64.wrap
                            ((if
                                  Go.IntKind.i64.wrap (0 - y.snd) >
                                    if y.snd > if Go.IntKind.i64.wrap (0 - y.fst) > y.fst then Go.IntKind.i64.wrap (0 - y.fst) else y.fst then y.snd
                                    else if Go.IntKind.i64.wrap (0 - y.fst) > y.fst then Go.IntKind.i64.wrap (0 - y.fst) else y.fst then
                                Go.IntKind.i64.wrap (0 - y.snd)
                              else
                                if y.snd > if Go.IntKind.i64.wrap (0 - y.fst) > y.fst then Go.IntKind.i64.wrap (0 - y.fst) else y.fst then y.snd
                                else if Go.IntKind.i64.wrap (0 - y.fst) > y.fst then Go.IntKind.i64.wrap (0 - y.fst) else y.fst) -
                              1))
                    else x.fst),
                  Go.Proofs.Ytcmmchpofkoddaa.Ex.AV.int Go.IntKind.i64 0],
              { blks := [], c := 0 })
      else
        bif Decidable.decide (x.snd > 0) then
          Option.some
            (Go.Proofs.Ytcmmchpofkoddaa.Ex.AV.agg
                [Go.Proofs.Ytcmmchpofkoddaa.Ex.AV.int Go.IntKind.i64 0,
                  Go.Proofs.Ytcmmchpofkoddaa.Ex.AV.int Go.IntKind.i64
                    (if
                        Go.IntKind.i64.wrap
                            ((if
                                  Go.IntKind.i64.wrap (0 - y.snd) >
                                    if y.snd > if Go.IntKind.i64.wrap (0 - y.fst) > y.fst then Go.IntKind.i64.wrap (0 - y.fst) else y.fst then y.snd
                                    else if Go.IntKind.i64.wrap (0 - y.fst) > y.fst then Go.IntKind.i64.wrap (0 - y.fst) else y.fst then
                                Go.IntKind.i64.wrap (0 - y.snd)
                              else
                                if y.snd > if Go.IntKind.i64.wrap (0 - y.fst) > y.fst then Go.IntKind.i64.wrap (0 - y.fst) else y.fst then y.snd
                                else if Go.IntKind.i64.wrap (0 - y.fst) > y.fst then Go.IntKind.i64.wrap (0 - y.fst) else y.fst) -
                              1) <
                          x.snd then
                      Go.IntKind.i64.wrap
                        ((if
                              Go.IntKind.i64.wrap (0 - y.snd) >
                                if y.snd > if Go.IntKind.i64.wrap (0 - y.fst) > y.fst then Go.IntKind.i64.wrap (0 - y.fst) else y.fst then y.snd
                                else if Go.IntKind.i64.wrap (0 - y.fst) > y.fst then Go.IntKind.i64.wrap (0 - y.fst) else y.fst then
                            Go.IntKind.i64.wrap (0 - y.snd)
                          else
                            if y.snd > if Go.IntKind.i64.wrap (0 - y.fst) > y.fst then Go.IntKind.i64.wrap (0 - y.fst) else y.fst then y.snd
                            else if Go.IntKind.i64.wrap (0 - y.fst) > y.fst then Go.IntKind.i64.wrap (0 - y.fst) else y.fst) -
                          1)
                    else x.snd)],
              { blks := [], c := 0 })
        else Option.some (Go.Proofs.Ytcmmchpofkoddaa.Ex.AV.agg [Go.Proofs.Ytcmmchpofkoddaa.Ex.AV.int Go.IntKind.i64 0, Go.Proofs.Ytcmmchpofkoddaa.Ex.AV.int Go.IntKind.i64 0], { blks := [], c := 0 })
  else
    bif Decidable.decide (x.fst < 0) then
      bif Decidable.decide (x.snd > 0) then
        Option.some
          (Go.Proofs.Ytcmmchpofkoddaa.Ex.AV.agg
              [Go.Proofs.Ytcmmchpofkoddaa.Ex.AV.int Go.IntKind.i64
                  (if
                      Go.IntKind.i64.wrap
                          (0 -
                            Go.IntKind.i64.wrap
                              ((if
                                    Go.IntKind.i64.wrap (0 - y.snd) >
                                      if y.snd > if Go.IntKind.i64.wrap (0 - y.fst) > y.fst then Go.IntKind.i64.wrap (0 - y.fst) else y.fst then y.snd
                                      else if Go.IntKind.i64.wrap (0 - y.fst) > y.fst then Go.IntKind.i64.wrap (0 - y.fst) else y.fst then
                                  Go.IntKind.i64.wrap (0 - y.snd)
                                else
                                  if y.snd > if Go.IntKind.i64.wrap (0 - y.fst) > y.fst then Go.IntKind.i64.wrap (0 - y.fst) else y.fst then y.snd
                                  else if Go.IntKind.i64.wrap (0 - y.fst) > y.fst then Go.IntKind.i64.wrap (0 - y.fst) else y.fst) -
                                1)) >
                        x.fst then
                    Go.IntKind.i64.wrap
                      (0 -
                        Go.IntKind.i64.wrap
                          ((if
                                Go.IntKind.i64.wrap (0 - y.snd) >
                                  if y.snd > if Go.IntKind.i64.wrap (0 - y.fst) > y.fst then Go.IntKind.i64.wrap (0 - y.fst) else y.fst then y.snd
                                  else if Go.IntKind.i64.wrap (0 - y.fst) > y.fst then Go.IntKind.i64.wrap (0 - y.fst) else y.fst then
                              Go.IntKind.i64.wrap (0 - y.snd)
                            else
                              if y.snd > if Go.IntKind.i64.wrap (0 - y.fst) > y.fst then Go.IntKind.i64.wrap (0 - y.fst) else y.fst then y.snd
                              else if Go.IntKind.i64.wrap (0 - y.fst) > y.fst then Go.IntKind.i64.wrap (0 - y.fst) else y.fst) -
                            1))
                  else x.fst),
                Go.Proofs.Ytcmmchpofkoddaa.Ex.AV.int Go.IntKind.i64
                  (if
                      Go.IntKind.i64.wrap
                          ((if
                                Go.IntKind.i64.wrap (0 - y.snd) >
                                  if y.snd > if Go.IntKind.i64.wrap (0 - y.fst) > y.fst then Go.IntKind.i64.wrap (0 - y.fst) else y.fst then y.snd
                                  else if Go.IntKind.i64.wrap (0 - y.fst) > y.fst then Go.IntKind.i64.wrap (0 - y.fst) else y.fst then
                              Go.IntKind.i64.wrap (0 - y.snd)
                            else
                              if y.snd > if Go.IntKind.i64.wrap (0 - y.fst) > y.fst then Go.IntKind.i64.wrap (0 - y.fst) else y.fst then y.snd
                              else if Go.IntKind.i64.wrap (0 - y.fst) > y.fst then Go.IntKind.i64.wrap (0 - y.fst) else y.fst) -
                            1) <
                        x.snd then
                    Go.IntKind.i64.wrap
                      ((if
                            Go.IntKind.i64.wrap (0 - y.snd) >
                              if y.snd > if Go.IntKind.i64.wrap (0 - y.fst) > y.fst then Go.IntKind.i64.wrap (0 - y.fst) else y.fst then y.snd
                              else if Go.IntKind.i64.wrap (0 - y.fst) > y.fst then Go.IntKind.i64.wrap (0 - y.fst) else y.fst then
                          Go.IntKind.i64.wrap (0 - y.snd)
                        else
                          if y.snd > if Go.IntKind.i64.wrap (0 - y.fst) > y.fst then Go.IntKind.i64.wrap (0 - y.fst) else y.fst then y.snd
                          else if Go.IntKind.i64.wrap (0 - y.fst) > y.fst then Go.IntKind.i64.wrap (0 - y.fst) else y.fst) -
                        1)
                  else x.snd)],
            { blks := [], c := 0 })
      else
        Option.some
          (Go.Proofs.Ytcmmchpofkoddaa.Ex.AV.agg
              [Go.Proofs.Ytcmmchpofkoddaa.Ex.AV.int Go.IntKind.i64
                  (if
                      Go.IntKind.i64.wrap
                          (0 -
                            Go.IntKind.i64.wrap
                              ((if
                                    Go.IntKind.i64.wrap (0 - y.snd) >
                                      if y.snd > if Go.IntKind.i64.wrap (0 - y.fst) > y.fst then Go.IntKind.i64.wrap (0 - y.fst) else y.fst then y.snd
                                      else if Go.IntKind.i64.wrap (0 - y.fst) > y.fst then Go.IntKind.i64.wrap (0 - y.fst) else y.fst then
                                  Go.IntKind.i64.wrap (0 - y.snd)
                                else
                                  if y.snd > if Go.IntKind.i64.wrap (0 - y.fst) > y.fst then Go.IntKind.i64.wrap (0 - y.fst) else y.fst then y.snd
                                  else if Go.IntKind.i64.wrap (0 - y.fst) > y.fst then Go.IntKind.i64.wrap (0 - y.fst) else y.fst) -
                                1)) >
                        x.fst then
                    Go.IntKind.i64.wrap
                      (0 -
                        Go.IntKind.i64.wrap
                          ((if
                                Go.IntKind.i64.wrap (0 - y.snd) >
                                  if y.snd > if Go.IntKind.i64.wrap (0 - y.fst) > y.fst then Go.IntKind.i64.wrap (0 - y.fst) else y.fst then y.snd
                                  else if Go.IntKind.i64.wrap (0 - y.fst) > y.fst then Go.IntKind.i64.wrap (0 - y.fst) else y.fst then
                              Go.IntKind.i64.wrap (0 - y.snd)
                            else
                              if y.snd > if Go.IntKind.i64.wrap (0 - y.fst) > y.fst then Go.IntKind.i64.wrap (0 - y.fst) else y.fst then y.snd
                              else if Go.IntKind.i64.wrap (0 - y.fst) > y.fst then Go.IntKind.i64.wrap (0 - y.fst) else y.fst) -
                            1))
                  else x.fst),
                Go.Proofs.Ytcmmchpofkoddaa.Ex.AV.int Go.IntKind.i64 0],
            { blks := [], c := 0 })
    else
      bif Decidable.decide (x.snd > 0) then
        Option.some
          (Go.Proofs.Ytcmmchpofkoddaa.Ex.AV.agg
              [Go.Proofs.Ytcmmchpofkoddaa.Ex.AV.int Go.IntKind.i64 0,
                Go.Proofs.Ytcmmchpofkoddaa.Ex.AV.int Go.IntKind.i64
                  (if
                      Go.IntKind.i64.wrap
                          ((if
                                Go.IntKind.i64.wrap (0 - y.snd) >
                                  if y.snd > if Go.IntKind.i64.wrap (0 - y.fst) > y.fst then Go.IntKind.i64.wrap (0 - y.fst) else y.fst then y.snd
                                  else if Go.IntKind.i64.wrap (0 - y.fst) > y.fst then Go.IntKind.i64.wrap (0 - y.fst) else y.fst then
                              Go.IntKind.i64.wrap (0 - y.snd)
                            else
                              if y.snd > if Go.IntKind.i64.wrap (0 - y.fst) > y.fst then Go.IntKind.i64.wrap (0 - y.fst) else y.fst then y.snd
                              else if Go.IntKind.i64.wrap (0 - y.fst) > y.fst then Go.IntKind.i64.wrap (0 - y.fst) else y.fst) -
                            1) <
                        x.snd then
                    Go.IntKind.i64.wrap
                      ((if
                            Go.IntKind.i64.wrap (0 - y.snd) >
                              if y.snd > if Go.IntKind.i64.wrap (0 - y.fst) > y.fst then Go.IntKind.i64.wrap (0 - y.fst) else y.fst then y.snd
                              else if Go.IntKind.i64.wrap (0 - y.fst) > y.fst then Go.IntKind.i64.wrap (0 - y.fst) else y.fst then
                          Go.IntKind.i64.wrap (0 - y.snd)
                        else
                          if y.snd > if Go.IntKind.i64.wrap (0 - y.fst) > y.fst then Go.IntKind.i64.wrap (0 - y.fst) else y.fst then y.snd
                          else if Go.IntKind.i64.wrap (0 - y.fst) > y.fst then Go.IntKind.i64.wrap (0 - y.fst) else y.fst) -
                        1)
                  else x.snd)],
            { blks := [], c := 0 })
      else Option.some (Go.Proofs.Ytcmmchpofkoddaa.Ex.AV.agg [Go.Proofs.Ytcmmchpofkoddaa.Ex.AV.int Go.IntKind.i64 0, Go.Proofs.Ytcmmchpofkoddaa.Ex.AV.int Go.IntKind.i64 0], { blks := [], c := 0 }) := by kernel_rfl
theorem raw42 (r : Int) : ev cx2 42 [aN r] =
  bif r == 1 then Option.some (Go.Proofs.Ytcmmchpofkoddaa.Ex.AV.int Go.IntKind.i64 5, { blks := [], c := 0 })
  else
    bif r == 2 then Option.some (Go.Proofs.Ytcmmchpofkoddaa.Ex.AV.int Go.IntKind.i64 6, { blks := [], c := 0 })
    else
      bif r == 3 then Option.some (Go.Proofs.Ytcmmchpofkoddaa.Ex.AV.int Go.IntKind.i64 4, { blks := [], c := 0 })
      else
        bif r == 4 then Option.some (Go.Proofs.Ytcmmchpofkoddaa.Ex.AV.int Go.IntKind.i64 3, { blks := [], c := 0 })
        else
          bif r == 5 then Option.some (Go.Proofs.Ytcmmchpofkoddaa.Ex.AV.int Go.IntKind.i64 1, { blks := [], c := 0 })
          else bif r == 6 then Option.some (Go.Proofs.Ytcmmchpofkoddaa.Ex.AV.int Go.IntKind.i64 2, { blks := [], c := 0 }) else Option.some (Go.Proofs.Ytcmmchpofkoddaa.Ex.AV.int Go.IntKind.i64 r, { blks := [], c := 0 }) := by kernel_rfl
theorem raw43 (r : Int) : ev cx2 43 [aN r] =
  bif r == 1 then Option.some (Go.Proofs.Ytcmmchpofkoddaa.Ex.AV.int Go.IntKind.i64 6, { blks := [], c := 0 })
  else
    bif r == 2 then Option.some (Go.Proofs.Ytcmmchpofkoddaa.Ex.AV.int Go.IntKind.i64 5, { blks := [], c := 0 })
    else
      bif r == 5 then Option.some (Go.Proofs.Ytcmmchpofkoddaa.Ex.AV.int Go.IntKind.i64 2, { blks := [], c := 0 })
      else bif r == 6 then Option.some (Go.Proofs.Ytcmmchpofkoddaa.Ex.AV.int Go.IntKind.i64 1, { blks := [], c := 0 }) else Option.some (Go.Proofs.Ytcmmchpofkoddaa.Ex.AV.int Go.IntKind.i64 r, { blks := [], c := 0 }) := by kernel_rfl
theorem raw56a (z : Int) : ev cx2 56 [aM1 z] =
  bif Decidable.decide (z < -2147483648) then Option.some (Go.Proofs.Ytcmmchpofkoddaa.Ex.AV.bool Bool.false, { blks := [], c := 0 })
  else bif Decidable.decide (z > 2147483647) then Option.some (Go.Proofs.Ytcmmchpofkoddaa.Ex.AV.bool Bool.false, { blks := [], c := 0 }) else Option.some (Go.Proofs.Ytcmmchpofkoddaa.Ex.AV.bool Bool.true, { blks := [], c := 0 }) := by kernel_rfl
theorem raw56b (z : Int × Int) : ev cx2 56 [aM2 z] =
  bif Decidable.decide (z.fst < -2147483648) then Option.some (Go.Proofs.Ytcmmchpofkoddaa.Ex.AV.bool Bool.false, { blks := [], c := 0 })
  else
    bif Decidable.decide (z.fst > 2147483647) then Option.some (Go.Proofs.Ytcmmchpofkoddaa.Ex.AV.bool Bool.false, { blks := [], c := 0 })
    else
      bif Decidable.decide (z.snd < -2147483648) then Option.some (Go.Proofs.Ytcmmchpofkoddaa.Ex.AV.bool Bool.false, { blks := [], c := 0 })
      else bif Decidable.decide (z.snd > 2147483647) then Option.some (Go.Proofs.Ytcmmchpofkoddaa.Ex.AV.bool Bool.false, { blks := [], c := 0 }) else Option.some (Go.Proofs.Ytcmmchpofkoddaa.Ex.AV.bool Bool.true, { blks := [], c := 0 }) := by kernel_rfl
theorem raw40 (r : Int) (x : I) (y : I) : ev cx2 40 [aN r, aI x, aI y] =
  bif r == 1 then
    bif Go.Proofs.Ytcmmchpofkoddaa.Ex.empB x then
      Option.some
        (Go.Proofs.Ytcmmchpofkoddaa.Ex.AV.tup
            [Go.Proofs.Ytcmmchpofkoddaa.Ex.AV.agg [Go.Proofs.Ytcmmchpofkoddaa.Ex.AV.int Go.IntKind.i64 Go.Proofs.Ytcmmchpofkoddaa.Ex.nn.fst, Go.Proofs.Ytcmmchpofkoddaa.Ex.AV.int Go.IntKind.i64 Go.Proofs.Ytcmmchpofkoddaa.Ex.nn.snd],
              Go.Proofs.Ytcmmchpofkoddaa.Ex.AV.agg [Go.Proofs.Ytcmmchpofkoddaa.Ex.AV.int Go.IntKind.i64 Go.Proofs.Ytcmmchpofkoddaa.Ex.nn.fst, Go.Proofs.Ytcmmchpofkoddaa.Ex.AV.int Go.IntKind.i64 Go.Proofs.Ytcmmchpofkoddaa.Ex.nn.snd]],
          { blks := [], c := 0 })
    else
      bif Go.Proofs.Ytcmmchpofkoddaa.Ex.empB y then
        Option.some
          (Go.Proofs.Ytcmmchpofkoddaa.Ex.AV.tup
              [Go.Proofs.Ytcmmchpofkoddaa.Ex.AV.agg [Go.Proofs.Ytcmmchpofkoddaa.Ex.AV.int Go.IntKind.i64 Go.Proofs.Ytcmmchpofkoddaa.Ex.nn.fst, Go.Proofs.Ytcmmchpofkoddaa.Ex.AV.int Go.IntKind.i64 Go.Proofs.Ytcmmchpofkoddaa.Ex.nn.snd],
                Go.Proofs.Ytcmmchpofkoddaa.Ex.AV.agg [Go.Proofs.Ytcmmchpofkoddaa.Ex.AV.int Go.IntKind.i64 Go.Proofs.Ytcmmchpofkoddaa.Ex.nn.fst, Go.Proofs.Ytcmmchpofkoddaa.Ex.AV.int Go.IntKind.i64 Go.Proofs.Ytcmmchpofkoddaa.Ex.nn.snd]],
            { blks := [], c := 0 })
      else
        bif Go.Proofs.Ytcmmchpofkoddaa.Ex.empB (x.fst, if Go.IntKind.i64.wrap (y.snd - 1) < x.snd then Go.IntKind.i64.wrap (y.snd - 1) else x.snd) then
          Option.some
            (Go.Proofs.Ytcmmchpofkoddaa.Ex.AV.tup
                [Go.Proofs.Ytcmmchpofkoddaa.Ex.AV.agg [Go.Proofs.Ytcmmchpofkoddaa.Ex.AV.int Go.IntKind.i64 Go.Proofs.Ytcmmchpofkoddaa.Ex.nn.fst, Go.Proofs.Ytcmmchpofkoddaa.Ex.AV.int Go.IntKind.i64 Go.Proofs.Ytcmmchpofkoddaa.Ex.nn.snd],
                  Go.Proofs.Ytcmmchpofkoddaa.Ex.AV.agg [Go.Proofs.Ytcmmchpofkoddaa.Ex.AV.int Go.IntKind.i64 Go.Proofs.Ytcmmchpofkoddaa.Ex.nn.fst, Go.Proofs.Ytcmmchpofkoddaa.Ex.AV.int Go.IntKind.i64 Go.Proofs.Ytcmmchpofkoddaa.Ex.nn.snd]],
              { blks := [], c := 0 })
        else
          bif Go.Proofs.Ytcmmchpofkoddaa.Ex.empB (if Go.IntKind.i64.wrap (x.fst + 1) > y.fst then Go.IntKind.i64.wrap (x.fst + 1) else y.fst, y.snd) then
            Option.some
              (Go.Proofs.Ytcmmchpofkoddaa.Ex.AV.tup
                  [Go.Proofs.Ytcmmchpofkoddaa.Ex.AV.agg [Go.Proofs.Ytcmmchpofkoddaa.Ex.AV.int Go.IntKind.i64 Go.Proofs.Ytcmmchpofkoddaa.Ex.nn.fst, Go.Proofs.Ytcmmchpofkoddaa.Ex.AV.int Go.IntKind.i64 Go.Proofs.Ytcmmchpofkoddaa.Ex.nn.snd],
                    Go.Proofs.Ytcmmchpofkoddaa.Ex.AV.agg [Go.Proofs.Ytcmmchpofkoddaa.Ex.AV.int Go.IntKind.i64 Go.Proofs.Ytcmmchpofkoddaa.Ex.nn.fst, Go.Proofs.Ytcmmchpofkoddaa.Ex.AV.int Go.IntKind.i64 Go.Proofs.Ytcmmchpofkoddaa.Ex.nn.snd]],
                { blks := [], c := 0 })
          else
            Option.some
              (Go.Proofs.Ytcmmchpofkoddaa.Ex.AV.tup
                  [Go.Proofs.Ytcmmchpofkoddaa.Ex.AV.agg [Go.Proofs.Ytcmmchpofkoddaa.Ex.AV.int Go.IntKind.i64 x.fst, Go.Proofs.Ytcmmchpofkoddaa.Ex.AV.int Go.IntKind.i64 (if Go.IntKind.i64.wrap (y.snd - 1) < x.snd then Go.IntKind.i64.wrap (y.snd - 1) else x.snd)],
                    Go.Proofs.Ytcmmchpofkoddaa.Ex.AV.agg [Go.Proofs.Ytcmmchpofkoddaa.Ex.AV.int Go.IntKind.i64 (if Go.IntKind.i64.wrap (x.fst + 1) > y.fst then Go.IntKind.i64.wrap (x.fst + 1) else y.fst), Go.Proofs.Ytcmmchpofkoddaa.Ex.AV.int Go.IntKind.i64 y.snd]],
                { blks := [], c := 0 })
  else
    bif r == 2 then
      bif Go.Proofs.Ytcmmchpofkoddaa.Ex.empB x then
        Option.some
          (Go.Proofs.Ytcmmchpofkoddaa.Ex.AV.tup
              [Go.Proofs.Ytcmmchpofkoddaa.Ex.AV.agg [Go.Proofs.Ytcmmchpofkoddaa.Ex.AV.int Go.IntKind.i64 Go.Proofs.Ytcmmchpofkoddaa.Ex.nn.fst, Go.Proofs.Ytcmmchpofkoddaa.Ex.AV.int Go.IntKind.i64 Go.Proofs.Ytcmmchpofkoddaa.Ex.nn.snd],
                Go.Proofs.Ytcmmchpofkoddaa.Ex.AV.agg [Go.Proofs.Ytcmmchpofkoddaa.Ex.AV.int Go.IntKind.i64 Go.Proofs.Ytcmmchpofkoddaa.Ex.nn.fst, Go.Proofs.Ytcmmchpofkoddaa.Ex.AV.int Go.IntKind.i64 Go.Proofs.Ytcmmchpofkoddaa.Ex.nn.snd]],
            { blks := [], c := 0 })
      else
        bif Go.Proofs.Ytcmmchpofkoddaa.Ex.empB y then
          Option.some
            (Go.Proofs.Ytcmmchpofkoddaa.Ex.AV.tup
                [Go.Proofs.Ytcmmchpofkoddaa.Ex.AV.agg [Go.Proofs.Ytcmmchpofkoddaa.Ex.AV.int Go.IntKind.i64 Go.Proofs.Ytcmmchpofkoddaa.Ex.nn.fst, Go.Proofs.Ytcmmchpofkoddaa.Ex.AV.int Go.IntKind.i64 Go.Proofs.Ytcmmchpofkoddaa.Ex.nn.snd],
                  Go.Proofs.Ytcmmchpofkoddaa.Ex.AV.agg [Go.Proofs.Ytcmmchpofkoddaa.Ex.AV.int Go.IntKind.i64 Go.Proofs.Ytcmmchpofkoddaa.Ex.nn.fst, Go.Proofs.Ytcmmchpofkoddaa.Ex.AV.int Go.IntKind.i64 Go.Proofs.Ytcmmchpofkoddaa.Ex.nn.snd]],
              { blks := [], c := 0 })
        else
          bif Go.Proofs.Ytcmmchpofkoddaa.Ex.empB (x.fst, if y.snd < x.snd then y.snd else x.snd) then
            Option.some
              (Go.Proofs.Ytcmmchpofkoddaa.Ex.AV.tup
                  [Go.Proofs.Ytcmmchpofkoddaa.Ex.AV.agg [Go.Proofs.Ytcmmchpofkoddaa.Ex.AV.int Go.IntKind.i64 Go.Proofs.Ytcmmchpofkoddaa.Ex.nn.fst, Go.Proofs.Ytcmmchpofkoddaa.Ex.AV.int Go.IntKind.i64 Go.Proofs.Ytcmmchpofkoddaa.Ex.nn.snd],
                    Go.Proofs.Ytcmmchpofkoddaa.Ex.AV.agg [Go.Proofs.Ytcmmchpofkoddaa.Ex.AV.int Go.IntKind.i64 Go.Proofs.Ytcmmchpofkoddaa.Ex.nn.fst, Go.Proofs.Ytcmmchpofkoddaa.Ex.AV.int Go.IntKind.i64 Go.Proofs.Ytcmmchpofkoddaa.Ex.nn.snd]],
                { blks := [], c := 0 })
          else
            bif Go.Proofs.Ytcmmchpofkoddaa.Ex.empB (if x.fst > y.fst then x.fst else y.fst, y.snd) then
              Option.some
                (Go.Proofs.Ytcmmchpofkoddaa.Ex.AV.tup
                    [Go.Proofs.Ytcmmchpofkoddaa.Ex.AV.agg [Go.Proofs.Ytcmmchpofkoddaa.Ex.AV.int Go.IntKind.i64 Go.Proofs.Ytcmmchpofkoddaa.Ex.nn.fst, Go.Proofs.Ytcmmchpofkoddaa.Ex.AV.int Go.IntKind.i64 Go.Proofs.Ytcmmchpofkoddaa.Ex.nn.snd],
                      Go.Proofs.Ytcmmchpofkoddaa.Ex.AV.agg [Go.Proofs.Ytcmmchpofkoddaa.Ex.AV.int Go.IntKind.i64 Go.Proofs.Ytcmmchpofkoddaa.Ex.nn.fst, Go.Proofs.Ytcmmchpofkoddaa.Ex.AV.int Go.IntKind.i64 Go.Proofs.Ytcmmchpofkoddaa.Ex.nn.snd]],
                  { blks := [], c := 0 })
            else
              Option.some
                (Go.Proofs.Ytcmmchpofkoddaa.Ex.AV.tup
                    [Go.Proofs.Ytcmmchpofkoddaa.Ex.AV.agg [Go.Proofs.Ytcmmchpofkoddaa.Ex.AV.int Go.IntKind.i64 x.fst, Go.Proofs.Ytcmmchpofkoddaa.Ex.AV.int Go.IntKind.i64 (if y.snd < x.snd then y.snd else x.snd)],
                      Go.Proofs.Ytcmmchpofkoddaa.Ex.AV.agg [Go.Proofs.Ytcmmchpofkoddaa.Ex.AV.int Go.IntKind.i64 (if x.fst > y.fst then x.fst else y.fst), Go.Proofs.Ytcmmchpofkoddaa.Ex.AV.int Go.IntKind.i64 y.snd]],
                  { blks := [], c := 0 })
    else
      bif r == 5 then
        bif Go.Proofs.Ytcmmchpofkoddaa.Ex.empB x then
          Option.some
            (Go.Proofs.Ytcmmchpofkoddaa.Ex.AV.tup
                [Go.Proofs.Ytcmmchpofkoddaa.Ex.AV.agg [Go.Proofs.Ytcmmchpofkoddaa.Ex.AV.int Go.IntKind.i64 Go.Proofs.Ytcmmchpofkoddaa.Ex.nn.fst, Go.Proofs.Ytcmmchpofkoddaa.Ex.AV.int Go.IntKind.i64 Go.Proofs.Ytcmmchpofkoddaa.Ex.nn.snd],
                  Go.Proofs.Ytcmmchpofkoddaa.Ex.AV.agg [Go.Proofs.Ytcmmchpofkoddaa.Ex.AV.int Go.IntKind.i64 Go.Proofs.Ytcmmchpofkoddaa.Ex.nn.fst, Go.Proofs.Ytcmmchpofkoddaa.Ex.AV.int Go.IntKind.i64 Go.Proofs.Ytcmmchpofkoddaa.Ex.nn.snd]],
              { blks := [], c := 0 })
        else
          bif Go.Proofs.Ytcmmchpofkoddaa.Ex.empB y then
            Option.some
              (Go.Proofs.Ytcmmchpofkoddaa.Ex.AV.tup
                  [Go.Proofs.Ytcmmchpofkoddaa.Ex.AV.agg [Go.Proofs.Ytcmmchpofkoddaa.Ex.AV.int Go.IntKind.i64 Go.Proofs.Ytcmmchpofkoddaa.Ex.nn.fst, Go.Proofs.Ytcmmchpofkoddaa.Ex.AV.int Go.IntKind.i64 Go.Proofs.Ytcmmchpofkoddaa.Ex.nn.snd],
                    Go.Proofs.Ytcmmchpofkoddaa.Ex.AV.agg [Go.Proofs.Ytcmmchpofkoddaa.Ex.AV.int Go.IntKind.i64 Go.Proofs.Ytcmmchpofkoddaa.Ex.nn.fst, Go.Proofs.Ytcmmchpofkoddaa.Ex.AV.int Go.IntKind.i64 Go.Proofs.Ytcmmchpofkoddaa.Ex.nn.snd]],
                { blks := [], c := 0 })
          else
            bif Go.Proofs.Ytcmmchpofkoddaa.Ex.empB (if y.fst > x.fst then y.fst else x.fst, x.snd) then
              Option.some
                (Go.Proofs.Ytcmmchpofkoddaa.Ex.AV.tup
                    [Go.Proofs.Ytcmmchpofkoddaa.Ex.AV.agg [Go.Proofs.Ytcmmchpofkoddaa.Ex.AV.int Go.IntKind.i64 Go.Proofs.Ytcmmchpofkoddaa.Ex.nn.fst, Go.Proofs.Ytcmmchpofkoddaa.Ex.AV.int Go.IntKind.i64 Go.Proofs.Ytcmmchpofkoddaa.Ex.nn.snd],
                      Go.Proofs.Ytcmmchpofkoddaa.Ex.AV.agg [Go.Proofs.Ytcmmchpofkoddaa.Ex.AV.int Go.IntKind.i64 Go.Proofs.Ytcmmchpofkoddaa.Ex.nn.fst, Go.Proofs.Ytcmmchpofkoddaa.Ex.AV.int Go.IntKind.i64 Go.Proofs.Ytcmmchpofkoddaa.Ex.nn.snd]],
                  { blks := [], c := 0 })
            else
              bif Go.Proofs.Ytcmmchpofkoddaa.Ex.empB (y.fst, if x.snd < y.snd then x.snd else y.snd) then
                Option.some
                  (Go.Proofs.Ytcmmchpofkoddaa.Ex.AV.tup
                      [Go.Proofs.Ytcmmchpofkoddaa.Ex.AV.agg [Go.Proofs.Ytcmmchpofkoddaa.Ex.AV.int Go.IntKind.i64 Go.Proofs.Ytcmmchpofkoddaa.Ex.nn.fst, Go.Proofs.Ytcmmchpofkoddaa.Ex.AV.int Go.IntKind.i64 Go.Proofs.Ytcmmchpofkoddaa.Ex.nn.snd],
                        Go.Proofs.Ytcmmchpofkoddaa.Ex.AV.agg [Go.Proofs.Ytcmmchpofkoddaa.Ex.AV.int Go.IntKind.i64 Go.Proofs.Ytcmmchpofkoddaa.Ex.nn.fst, Go.Proofs.Ytcmmchpofkoddaa.Ex.AV.int Go.IntKind.i64 Go.Proofs.Ytcmmchpofkoddaa.Ex.nn.snd]],
                    { blks := [], c := 0 })
              else
                Option.some
                  (Go.Proofs.Ytcmmchpofkoddaa.Ex.AV.tup
                      [Go.Proofs.Ytcmmchpofkoddaa.Ex.AV.agg [Go.Proofs.Ytcmmchpofkoddaa.Ex.AV.int Go.IntKind.i64 (if y.fst > x.fst then y.fst else x.fst), Go.Proofs.Ytcmmchpofkoddaa.Ex.AV.int Go.IntKind.i64 x.snd],
                        Go.Proofs.Ytcmmchpofkoddaa.Ex.AV.agg [Go.Proofs.Ytcmmchpofkoddaa.Ex.AV.int Go.IntKind.i64 y.fst, Go.Proofs.Ytcmmchpofkoddaa.Ex.AV.int Go.IntKind.i64 (if x.snd < y.snd then x.snd else y.snd)]],
                    { blks := [], c := 0 })
      else
        bif r == 6 then
          bif Go.Proofs.Ytcmmchpofkoddaa.Ex.empB x then
            Option.some
              (Go.Proofs.Ytcmmchpofkoddaa.Ex.AV.tup
                  [Go.Proofs.Ytcmmchpofkoddaa.Ex.AV.agg [Go.Proofs.Ytcmmchpofkoddaa.Ex.AV.int Go.IntKind.i64 Go.Proofs.Ytcmmchpofkoddaa.Ex.nn.fst, Go.Proofs.Ytcmmchpofkoddaa.Ex.AV.int Go.IntKind.i64 Go.Proofs.Ytcmmchpofkoddaa.Ex.nn.snd],
                    Go.Proofs.Ytcmmchpofkoddaa.Ex.AV.agg [Go.Proofs.Ytcmmchpofkoddaa.Ex.AV.int Go.IntKind.i64 Go.Proofs.Ytcmmchpofkoddaa.Ex.nn.fst, Go.Proofs.Ytcmmchpofkoddaa.Ex.AV.int Go.IntKind.i64 Go.Proofs.Ytcmmchpofkoddaa.Ex.nn.snd]],
                { blks := [], c := 0 })
          else
            bif Go.Proofs.Ytcmmchpofkoddaa.Ex.empB y then
              Option.some
                (Go.Proofs.Ytcmmchpofkoddaa.Ex.AV.tup
                    [Go.Proofs.Ytcmmchpofkoddaa.Ex.AV.agg [Go.Proofs.Ytcmmchpofkoddaa.Ex.AV.int Go.IntKind.i64 Go.Proofs.Ytcmmchpofkoddaa.Ex.nn.fst, Go.Proofs.Ytcmmchpofkoddaa.Ex.AV.int Go.IntKind.i64 Go.Proofs.Ytcmmchpofkoddaa.Ex.nn.snd],
                      Go.Proofs.Ytcmmchpofkoddaa.Ex.AV.agg [Go.Proofs.Ytcmmchpofkoddaa.Ex.AV.int Go.IntKind.i64 Go.Proofs.Ytcmmchpofkoddaa.Ex.nn.fst, Go.Proofs.Ytcmmchpofkoddaa.Ex.AV.int Go.IntKind.i64 Go.Proofs.Ytcmmchpofkoddaa.Ex.nn.snd]],
                  { blks := [], c := 0 })
            else
              bif Go.Proofs.Ytcmmchpofkoddaa.Ex.empB (if Go.IntKind.i64.wrap (y.fst + 1) > x.fst then Go.IntKind.i64.wrap (y.fst + 1) else x.fst, x.snd) then
                Option.some
                  (Go.Proofs.Ytcmmchpofkoddaa.Ex.AV.tup
                      [Go.Proofs.Ytcmmchpofkoddaa.Ex.AV.agg [Go.Proofs.Ytcmmchpofkoddaa.Ex.AV.int Go.IntKind.i64 Go.Proofs.Ytcmmchpofkoddaa.Ex.nn.fst, Go.Proofs.Ytcmmchpofkoddaa.Ex.AV.int Go.IntKind.i64 Go.Proofs.Ytcmmchpofkoddaa.Ex.nn.snd],
                        Go.Proofs.Ytcmmchpofkoddaa.Ex.AV.agg [Go.Proofs.Ytcmmchpofkoddaa.Ex.AV.int Go.IntKind.i64 Go.Proofs.Ytcmmchpofkoddaa.Ex.nn.fst, Go.Proofs.Ytcmmchpofkoddaa.Ex.AV.int Go.IntKind.i64 Go.Proofs.Ytcmmchpofkoddaa.Ex.nn.snd]],
                    { blks := [], c := 0 })
              else
                bif Go.Proofs.Ytcmmchpofkoddaa.Ex.empB (y.fst, if Go.IntKind.i64.wrap (x.snd - 1) < y.snd then Go.IntKind.i64.wrap (x.snd - 1) else y.snd) then
                  Option.some
                    (Go.Proofs.Ytcmmchpofkoddaa.Ex.AV.tup
                        [Go.Proofs.Ytcmmchpofkoddaa.Ex.AV.agg [Go.Proofs.Ytcmmchpofkoddaa.Ex.AV.int Go.IntKind.i64 Go.Proofs.Ytcmmchpofkoddaa.Ex.nn.fst, Go.Proofs.Ytcmmchpofkoddaa.Ex.AV.int Go.IntKind.i64 Go.Proofs.Ytcmmchpofkoddaa.Ex.nn.snd],
                          Go.Proofs.Ytcmmchpofkoddaa.Ex.AV.agg [Go.Proofs.Ytcmmchpofkoddaa.Ex.AV.int Go.IntKind.i64 Go.Proofs.Ytcmmchpofkoddaa.Ex.nn.fst, Go.Proofs.Ytcmmchpofkoddaa.Ex.AV.int Go.IntKind.i64 Go.Proofs.Ytcmmchpofkoddaa.Ex.nn.snd]],
                      { blks := [], c := 0 })
                else
                  Option.some
                    (Go.Proofs.Ytcmmchpofkoddaa.Ex.AV.tup
                        [Go.Proofs.Ytcmmchpofkoddaa.Ex.AV.agg [Go.Proofs.Ytcmmchpofkoddaa.Ex.AV.int Go.IntKind.i64 (if Go.IntKind.i64.wrap (y.fst + 1) > x.fst then Go.IntKind.i64.wrap (y.fst + 1) else x.fst), Go.Proofs.Ytcmmchpofkoddaa.Ex.AV.int Go.IntKind.i64 x.snd],
                          Go.Proofs.Ytcmmchpofkoddaa.Ex.AV.agg [Go.Proofs.Ytcmmchpofkoddaa.Ex.AV.int Go.IntKind.i64 y.fst, Go.Proofs.Ytcmmchpofkoddaa.Ex.AV.int Go.IntKind.i64 (if Go.IntKind.i64.wrap (x.snd - 1) < y.snd then Go.IntKind.i64.wrap (x.snd - 1) else y.snd)]],
                      { blks := [], c := 0 })
        else
          bif r == 3 then
            bif Go.Proofs.Ytcmmchpofkoddaa.Ex.empB x then
              Option.some
                (Go.Proofs.Ytcmmchpofkoddaa.Ex.AV.tup
                    [Go.Proofs.Ytcmmchpofkoddaa.Ex.AV.agg [Go.Proofs.Ytcmmchpofkoddaa.Ex.AV.int Go.IntKind.i64 Go.Proofs.Ytcmmchpofkoddaa.Ex.nn.fst, Go.Proofs.Ytcmmchpofkoddaa.Ex.AV.int Go.IntKind.i64 Go.Proofs.Ytcmmchpofkoddaa.Ex.nn.snd],
                      Go.Proofs.Ytcmmchpofkoddaa.Ex.AV.agg [Go.Proofs.Ytcmmchpofkoddaa.Ex.AV.int Go.IntKind.i64 Go.Proofs.Ytcmmchpofkoddaa.Ex.nn.fst, Go.Proofs.Ytcmmchpofkoddaa.Ex.AV.int Go.IntKind.i64 Go.Proofs.Ytcmmchpofkoddaa.Ex.nn.snd]],
                  { blks := [], c := 0 })
            else
              bif Go.Proofs.Ytcmmchpofkoddaa.Ex.empB y then
                Option.some
                  (Go.Proofs.Ytcmmchpofkoddaa.Ex.AV.tup
                      [Go.Proofs.Ytcmmchpofkoddaa.Ex.AV.agg [Go.Proofs.Ytcmmchpofkoddaa.Ex.AV.int Go.IntKind.i64 Go.Proofs.Ytcmmchpofkoddaa.Ex.nn.fst, Go.Proofs.Ytcmmchpofkoddaa.Ex.AV.int Go.IntKind.i64 Go.Proofs.Ytcmmchpofkoddaa.Ex.nn.snd],
                        Go.Proofs.Ytcmmchpofkoddaa.Ex.AV.agg [Go.Proofs.Ytcmmchpofkoddaa.Ex.AV.int Go.IntKind.i64 Go.Proofs.Ytcmmchpofkoddaa.Ex.nn.fst, Go.Proofs.Ytcmmchpofkoddaa.Ex.AV.int Go.IntKind.i64 Go.Proofs.Ytcmmchpofkoddaa.Ex.nn.snd]],
                    { blks := [], c := 0 })
              else
                bif Go.Proofs.Ytcmmchpofkoddaa.Ex.empB (Go.Proofs.Ytcmmchpofkoddaa.Ex.iMeet x y) then
                  Option.some
                    (Go.Proofs.Ytcmmchpofkoddaa.Ex.AV.tup
                        [Go.Proofs.Ytcmmchpofkoddaa.Ex.AV.agg [Go.Proofs.Ytcmmchpofkoddaa.Ex.AV.int Go.IntKind.i64 Go.Proofs.Ytcmmchpofkoddaa.Ex.nn.fst, Go.Proofs.Ytcmmchpofkoddaa.Ex.AV.int Go.IntKind.i64 Go.Proofs.Ytcmmchpofkoddaa.Ex.nn.snd],
                          Go.Proofs.Ytcmmchpofkoddaa.Ex.AV.agg [Go.Proofs.Ytcmmchpofkoddaa.Ex.AV.int Go.IntKind.i64 Go.Proofs.Ytcmmchpofkoddaa.Ex.nn.fst, Go.Proofs.Ytcmmchpofkoddaa.Ex.AV.int Go.IntKind.i64 Go.Proofs.Ytcmmchpofkoddaa.Ex.nn.snd]],
                      { blks := [], c := 0 })
                else
                  bif Go.Proofs.Ytcmmchpofkoddaa.Ex.empB (Go.Proofs.Ytcmmchpofkoddaa.Ex.iMeet x y) then
                    Option.some
                      (Go.Proofs.Ytcmmchpofkoddaa.Ex.AV.tup
                          [Go.Proofs.Ytcmmchpofkoddaa.Ex.AV.agg [Go.Proofs.Ytcmmchpofkoddaa.Ex.AV.int Go.IntKind.i64 Go.Proofs.Ytcmmchpofkoddaa.Ex.nn.fst, Go.Proofs.Ytcmmchpofkoddaa.Ex.AV.int Go.IntKind.i64 Go.Proofs.Ytcmmchpofkoddaa.Ex.nn.snd],
                            Go.Proofs.Ytcmmchpofkoddaa.Ex.AV.agg [Go.Proofs.Ytcmmchpofkoddaa.Ex.AV.int Go.IntKind.i64 Go.Proofs.Ytcmmchpofkoddaa.Ex.nn.fst, Go.Proofs.Ytcmmchpofkoddaa.Ex.AV.int Go.IntKind.i64 Go.Proofs.Ytcmmchpofkoddaa.Ex.nn.snd]],
                        { blks := [], c := 0 })
                  else
                    Option.some
                      (Go.Proofs.Ytcmmchpofkoddaa.Ex.AV.tup
                          [Go.Proofs.Ytcmmchpofkoddaa.Ex.AV.agg [Go.Proofs.Ytcmmchpofkoddaa.Ex.AV.int Go.IntKind.i64 (Go.Proofs.Ytcmmchpofkoddaa.Ex.iMeet x y).fst, Go.Proofs.Ytcmmchpofkoddaa.Ex.AV.int Go.IntKind.i64 (Go.Proofs.Ytcmmchpofkoddaa.Ex.iMeet x y).snd],
                            Go.Proofs.Ytcmmchpofkoddaa.Ex.AV.agg [Go.Proofs.Ytcmmchpofkoddaa.Ex.AV.int Go.IntKind.i64 (Go.Proofs.Ytcmmchpofkoddaa.Ex.iMeet x y).fst, Go.Proofs.Ytcmmchpofkoddaa.Ex.AV.int Go.IntKind.i64 (Go.Proofs.Ytcmmchpofkoddaa.Ex.iMeet x y).snd]],
                        { blks := [], c := 0 })
          else
            bif r == 4 then
              bif Go.Proofs.Ytcmmchpofkoddaa.Ex.isB x then
                bif Go.Proofs.Ytcmmchpofkoddaa.Ex.isB y then
                  bif Go.Proofs.Ytcmmchpofkoddaa.Ex.empB x then
                    Option.some
                      (Go.Proofs.Ytcmmchpofkoddaa.Ex.AV.tup
                          [Go.Proofs.Ytcmmchpofkoddaa.Ex.AV.agg [Go.Proofs.Ytcmmchpofkoddaa.Ex.AV.int Go.IntKind.i64 Go.Proofs.Ytcmmchpofkoddaa.Ex.nn.fst, Go.Proofs.Ytcmmchpofkoddaa.Ex.AV.int Go.IntKind.i64 Go.Proofs.Ytcmmchpofkoddaa.Ex.nn.snd],
                            Go.Proofs.Ytcmmchpofkoddaa.Ex.AV.agg [Go.Proofs.Ytcmmchpofkoddaa.Ex.AV.int Go.IntKind.i64 Go.Proofs.Ytcmmchpofkoddaa.Ex.nn.fst, Go.Proofs.Ytcmmchpofkoddaa.Ex.AV.int Go.IntKind.i64 Go.Proofs.Ytcmmchpofkoddaa.Ex.nn.snd]],
                        { blks := [], c := 0 })
                  else
                    bif Go.Proofs.Ytcmmchpofkoddaa.Ex.empB y then
                      Option.some
                        (Go.Proofs.Ytcmmchpofkoddaa.Ex.AV.tup
                            [Go.Proofs.Ytcmmchpofkoddaa.Ex.AV.agg [Go.Proofs.Ytcmmchpofkoddaa.Ex.AV.int Go.IntKind.i64 Go.Proofs.Ytcmmchpofkoddaa.Ex.nn.fst, Go.Proofs.Ytcmmchpofkoddaa.Ex.AV.int Go.IntKind.i64 Go.Proofs.Ytcmmchpofkoddaa.Ex.nn.snd],
                              Go.Proofs.Ytcmmchpofkoddaa.Ex.AV.agg [Go.Proofs.Ytcmmchpofkoddaa.Ex.AV.int Go.IntKind.i64 Go.Proofs.Ytcmmchpofkoddaa.Ex.nn.fst, Go.Proofs.Ytcmmchpofkoddaa.Ex.AV.int Go.IntKind.i64 Go.Proofs.Ytcmmchpofkoddaa.Ex.nn.snd]],
                          { blks := [], c := 0 })
                    else
                      bif Go.Proofs.Ytcmmchpofkoddaa.Ex.empB (Go.Proofs.Ytcmmchpofkoddaa.Ex.wout x y) then
                        Option.some
                          (Go.Proofs.Ytcmmchpofkoddaa.Ex.AV.tup
                              [Go.Proofs.Ytcmmchpofkoddaa.Ex.AV.agg [Go.Proofs.Ytcmmchpofkoddaa.Ex.AV.int Go.IntKind.i64 Go.Proofs.Ytcmmchpofkoddaa.Ex.nn.fst, Go.Proofs.Ytcmmchpofkoddaa.Ex.AV.int Go.IntKind.i64 Go.Proofs.Ytcmmchpofkoddaa.Ex.nn.snd],
                                Go.Proofs.Ytcmmchpofkoddaa.Ex.AV.agg [Go.Proofs.Ytcmmchpofkoddaa.Ex.AV.int Go.IntKind.i64 Go.Proofs.Ytcmmchpofkoddaa.Ex.nn.fst, Go.Proofs.Ytcmmchpofkoddaa.Ex.AV.int Go.IntKind.i64 Go.Proofs.Ytcmmchpofkoddaa.Ex.nn.snd]],
                            { blks := [], c := 0 })
                      else
                        bif Go.Proofs.Ytcmmchpofkoddaa.Ex.empB (Go.Proofs.Ytcmmchpofkoddaa.Ex.wout y x) then
                          Option.some
                            (Go.Proofs.Ytcmmchpofkoddaa.Ex.AV.tup
                                [Go.Proofs.Ytcmmchpofkoddaa.Ex.AV.agg [Go.Proofs.Ytcmmchpofkoddaa.Ex.AV.int Go.IntKind.i64 Go.Proofs.Ytcmmchpofkoddaa.Ex.nn.fst, Go.Proofs.Ytcmmchpofkoddaa.Ex.AV.int Go.IntKind.i64 Go.Proofs.Ytcmmchpofkoddaa.Ex.nn.snd],
                                  Go.Proofs.Ytcmmchpofkoddaa.Ex.AV.agg [Go.Proofs.Ytcmmchpofkoddaa.Ex.AV.int Go.IntKind.i64 Go.Proofs.Ytcmmchpofkoddaa.Ex.nn.fst, Go.Proofs.Ytcmmchpofkoddaa.Ex.AV.int Go.IntKind.i64 Go.Proofs.Ytcmmchpofkoddaa.Ex.nn.snd]],
                              { blks := [], c := 0 })
                        else
                          Option.some
                            (Go.Proofs.Ytcmmchpofkoddaa.Ex.AV.tup
                                [Go.Proofs.Ytcmmchpofkoddaa.Ex.AV.agg [Go.Proofs.Ytcmmchpofkoddaa.Ex.AV.int Go.IntKind.i64 (Go.Proofs.Ytcmmchpofkoddaa.Ex.wout x y).fst, Go.Proofs.Ytcmmchpofkoddaa.Ex.AV.int Go.IntKind.i64 (Go.Proofs.Ytcmmchpofkoddaa.Ex.wout x y).snd],
                                  Go.Proofs.Ytcmmchpofkoddaa.Ex.AV.agg [Go.Proofs.Ytcmmchpofkoddaa.Ex.AV.int Go.IntKind.i64 (Go.Proofs.Ytcmmchpofkoddaa.Ex.wout y x).fst, Go.Proofs.Ytcmmchpofkoddaa.Ex.AV.int Go.IntKind.i64 (Go.Proofs.Ytcmmchpofkoddaa.Ex.wout y x).snd]],
                              { blks := [], c := 0 })
                else Option.none
              else Option.none
            else
              Option.some
                (Go.Proofs.Ytcmmchpofkoddaa.Ex.AV.tup
                    [Go.Proofs.Ytcmmchpofkoddaa.Ex.AV.agg [Go.Proofs.Ytcmmchpofkoddaa.Ex.AV.int Go.IntKind.i64 Go.Proofs.Ytcmmchpofkoddaa.Ex.nn.fst, Go.Proofs.Ytcmmchpofkoddaa.Ex.AV.int Go.IntKind.i64 Go.Proofs.Ytcmmchpofkoddaa.Ex.nn.snd],
                      Go.Proofs.Ytcmmchpofkoddaa.Ex.AV.agg [Go.Proofs.Ytcmmchpofkoddaa.Ex.AV.int Go.IntKind.i64 Go.Proofs.Ytcmmchpofkoddaa.Ex.nn.fst, Go.Proofs.Ytcmmchpofkoddaa.Ex.AV.int Go.IntKind.i64 Go.Proofs.Ytcmmchpofkoddaa.Ex.nn.snd]],
                  { blks := [], c := 0 }) := by kernel_rfl
theorem raw53 (x : I) (y : I) (d : Bool) : ev cx2 53 [aI x, aI y, .bool d] =
  bif d then
    bif Decidable.decide (y.fst = 0) then Option.none
    else
      bif Decidable.decide (y.snd = 0) then Option.none
      else
        bif Decidable.decide (y.fst = 0) then Option.none
        else
          bif Decidable.decide (y.snd = 0) then Option.none
          else
            Option.some
              (Go.Proofs.Ytcmmchpofkoddaa.Ex.AV.tup
                  [Go.Proofs.Ytcmmchpofkoddaa.Ex.AV.int Go.IntKind.i64
                      (if
                          Go.IntKind.i64.wrap (x.snd.tdiv y.snd) <
                            if
                                Go.IntKind.i64.wrap (x.snd.tdiv y.fst) <
                                  if Go.IntKind.i64.wrap (x.fst.tdiv y.snd) < Go.IntKind.i64.wrap (x.fst.tdiv y.fst) then Go.IntKind.i64.wrap (x.fst.tdiv y.snd)
                                  else Go.IntKind.i64.wrap (x.fst.tdiv y.fst) then
                              Go.IntKind.i64.wrap (x.snd.tdiv y.fst)
                            else
                              if Go.IntKind.i64.wrap (x.fst.tdiv y.snd) < Go.IntKind.i64.wrap (x.fst.tdiv y.fst) then Go.IntKind.i64.wrap (x.fst.tdiv y.snd)
                              else Go.IntKind.i64.wrap (x.fst.tdiv y.fst) then
                        Go.IntKind.i64.wrap (x.snd.tdiv y.snd)
                      else
                        if
                            Go.IntKind.i64.wrap (x.snd.tdiv y.fst) <
                              if Go.IntKind.i64.wrap (x.fst.tdiv y.snd) < Go.IntKind.i64.wrap (x.fst.tdiv y.fst) then Go.IntKind.i64.wrap (x.fst.tdiv y.snd)
                              else Go.IntKind.i64.wrap (x.fst.tdiv y.fst) then
                          Go.IntKind.i64.wrap (x.snd.tdiv y.fst)
                        else if Go.IntKind.i64.wrap (x.fst.tdiv y.snd) < Go.IntKind.i64.wrap (x.fst.tdiv y.fst) then Go.IntKind.i64.wrap (x.fst.tdiv y.snd) else Go.IntKind.i64.wrap (x.fst.tdiv y.fst)),
                    Go.Proofs.Ytcmmchpofkoddaa.Ex.AV.int Go.IntKind.i64
                      (if
                          Go.IntKind.i64.wrap (x.snd.tdiv y.snd) >
                            if
                                Go.IntKind.i64.wrap (x.snd.tdiv y.fst) >
                                  if Go.IntKind.i64.wrap (x.fst.tdiv y.snd) > Go.IntKind.i64.wrap (x.fst.tdiv y.fst) then Go.IntKind.i64.wrap (x.fst.tdiv y.snd)
                                  else Go.IntKind.i64.wrap (x.fst.tdiv y.fst) then
                              Go.IntKind.i64.wrap (x.snd.tdiv y.fst)
                            else
                              if Go.IntKind.i64.wrap (x.fst.tdiv y.snd) > Go.IntKind.i64.wrap (x.fst.tdiv y.fst) then Go.IntKind.i64.wrap (x.fst.tdiv y.snd)
                              else Go.IntKind.i64.wrap (x.fst.tdiv y.fst) then
                        Go.IntKind.i64.wrap (x.snd.tdiv y.snd)
                      else
                        if
                            Go.IntKind.i64.wrap (x.snd.tdiv y.fst) >
                              if Go.IntKind.i64.wrap (x.fst.tdiv y.snd) > Go.IntKind.i64.wrap (x.fst.tdiv y.fst) then Go.IntKind.i64.wrap (x.fst.tdiv y.snd)
                              else Go.IntKind.i64.wrap (x.fst.tdiv y.fst) then
                          Go.IntKind.i64.wrap (x.snd.tdiv y.fst)
                        else if Go.IntKind.i64.wrap (x.fst.tdiv y.snd) > Go.IntKind.i64.wrap (x.fst.tdiv y.fst) then Go.IntKind.i64.wrap (x.fst.tdiv y.snd) else Go.IntKind.i64.wrap (x.fst.tdiv y.fst))],
                { blks := [], c := 0 })
  else
    Option.some
      (Go.Proofs.Ytcmmchpofkoddaa.Ex.AV.tup
          [Go.Proofs.Ytcmmchpofkoddaa.Ex.AV.int Go.IntKind.i64
              (if
                  Go.IntKind.i64.wrap (x.snd * y.snd) <
                    if
                        Go.IntKind.i64.wrap (x.snd * y.fst) <
                          if Go.IntKind.i64.wrap (x.fst * y.snd) < Go.IntKind.i64.wrap (x.fst * y.fst) then Go.IntKind.i64.wrap (x.fst * y.snd) else Go.IntKind.i64.wrap (x.fst * y.fst) then
                      Go.IntKind.i64.wrap (x.snd * y.fst)
                    else if Go.IntKind.i64.wrap (x.fst * y.snd) < Go.IntKind.i64.wrap (x.fst * y.fst) then Go.IntKind.i64.wrap (x.fst * y.snd) else Go.IntKind.i64.wrap (x.fst * y.fst) then
                Go.IntKind.i64.wrap (x.snd * y.snd)
              else
                if
                    Go.IntKind.i64.wrap (x.snd * y.fst) <
                      if Go.IntKind.i64.wrap (x.fst * y.snd) < Go.IntKind.i64.wrap (x.fst * y.fst) then Go.IntKind.i64.wrap (x.fst * y.snd) else Go.IntKind.i64.wrap (x.fst * y.fst) then
                  Go.IntKind.i64.wrap (x.snd * y.fst)
                else if Go.IntKind.i64.wrap (x.fst * y.snd) < Go.IntKind.i64.wrap (x.fst * y.fst) then Go.IntKind.i64.wrap (x.fst * y.snd) else Go.IntKind.i64.wrap (x.fst * y.fst)),
            Go.Proofs.Ytcmmchpofkoddaa.Ex.AV.int Go.IntKind.i64
              (if
                  Go.IntKind.i64.wrap (x.snd * y.snd) >
                    if
                        Go.IntKind.i64.wrap (x.snd * y.fst) >
                          if Go.IntKind.i64.wrap (x.fst * y.snd) > Go.IntKind.i64.wrap (x.fst * y.fst) then Go.IntKind.i64.wrap (x.fst * y.snd) else Go.IntKind.i64.wrap (x.fst * y.fst) then
                      Go.IntKind.i64.wrap (x.snd * y.fst)
                    else if Go.IntKind.i64.wrap (x.fst * y.snd) > Go.IntKind.i64.wrap (x.fst * y.fst) then Go.IntKind.i64.wrap (x.fst * y.snd) else Go.IntKind.i64.wrap (x.fst * y.fst) then
                Go.IntKind.i64.wrap (x.snd * y.snd)
              else
                if
                    Go.IntKind.i64.wrap (x.snd * y.fst) >
                      if Go.IntKind.i64.wrap (x.fst * y.snd) > Go.IntKind.i64.wrap (x.fst * y.fst) then Go.IntKind.i64.wrap (x.fst * y.snd) else Go.IntKind.i64.wrap (x.fst * y.fst) then
                  Go.IntKind.i64.wrap (x.snd * y.fst)
                else if Go.IntKind.i64.wrap (x.fst * y.snd) > Go.IntKind.i64.wrap (x.fst * y.fst) then Go.IntKind.i64.wrap (x.fst * y.snd) else Go.IntKind.i64.wrap (x.fst * y.fst))],
        { blks := [], c := 0 }) := by kernel_rfl
end Go.Proofs.Ytcmmchpofkoddaa.Ex

/- Contracts, level 2. -/
namespace Go.Proofs.Ytcmmchpofkoddaa.Ex
open Go.Proofs Go.Proofs.Ytcmmchpofkoddaa
set_option maxRecDepth 100000
set_option linter.unusedSimpArgs false
set_option linter.unusedVariables false
theorem ok16 (x : I) (y : I) : ev cx2 16 [aI x, aI y] = outV (.bool (isB x && isB y)) := by
  rw [raw16]
  cases isB x <;> rfl
theorem ok35 (x : I) (y : I) : ev cx2 35 [aI x, aI y] = outV (aI (mSpan x y)) := by
  rw [raw35]
  rfl
theorem ok47M (x : I) (y : I) (hp : (isB x && isB y) = true) : ev cx2 47 [aI x, aI y, .clo 48 [] []] = outV (aI (mul4 x y)) := by
  rw [raw47M]
  simp only [Bool.and_eq_true] at hp; have h1 := isB_abs hp.1; have h2 := isB_abs hp.2; simp only [wr (mul_abs h1.1 h2.1), wr (mul_abs h1.1 h2.2), wr (mul_abs h1.2 h2.1), wr (mul_abs h1.2 h2.2), mn_def, mx_def]; rfl
theorem ok47D (x : I) (y : I) (hp : (isB x && isB y && noZ y) = true) : ev cx2 47 [aI x, aI y, .clo 61 [] []] = outV (aI (div4 x y)) := by
  rw [raw47D]
  simp only [Bool.and_eq_true] at hp
  have h1 := isB_abs hp.1.1
  have h2 := hp.2
  simp only [noZ, Bool.and_eq_true, Bool.not_eq_true', beq_eq_false_iff_ne] at h2
  simp only [h2.1, h2.2, decide_false, cond_false, wr (div_abs (Nat.le_trans h1.1 (by omega : 2147483648 ≤ 4611686018427387904))), wr (div_abs (Nat.le_trans h1.2 (by omega : 2147483648 ≤ 4611686018427387904))), mn_def, mx_def]
  rfl
theorem ok52 (a : Int) (b : Int) : ev cx2 52 [aN a, aN b] = outV (.tup [aI (clipV a b), .bool (clipO a b)]) := by
  rw [raw52]
  unfold clipO; cases decide (a < -2147483648) <;> rfl
theorem ok60 (x : I) (y : I) (hp : (isB x) = true) : ev cx2 60 [aI x, aI y] = outV (aI (oth x y)) := by
  rw [raw60]
  have h1 := isB_abs hp
  simp only [wr (n := x.1 + 1) (by omega), wr (n := x.2 - 1) (by omega)]
  simp [outV, aI, oth, cond_eq_ite]
  (repeat' split) <;> simp_all
theorem ok55 (x : I) (y : I) (hp : (isB x && isB y) = true) : ev cx2 55 [aI x, aI y] = outV (aI (remI x y)) := by
  rw [raw55]
  simp only [Bool.and_eq_true] at hp
  have h1 := isB_abs hp.1
  have h2 := isB_abs hp.2
  have w1 : IntKind.i64.wrap (0 - y.1) = -y.1 := by rw [wr (by omega)]; omega
  have w2 : IntKind.i64.wrap (0 - y.2) = -y.2 := by rw [wr (by omega)]; omega
  simp only [w1, w2, mn_def, mx_def]
  have hmm : mx (mx (mx y.1 (-y.1)) y.2) (-y.2) = mx (mx (mx y.2 (-y.2)) y.1) (-y.1) := by unfold mx; omega
  rw [hmm]
  have hm : (mx (mx (mx y.2 (-y.2)) y.1) (-y.1) - 1).natAbs ≤ 2147483649 := by unfold mx; omega
  have w3 : IntKind.i64.wrap (mx (mx (mx y.2 (-y.2)) y.1) (-y.1) - 1) = mx (mx (mx y.2 (-y.2)) y.1) (-y.1) - 1 := wr (by omega)
  simp only [w3]
  unfold remI
  generalize mx (mx (mx y.2 (-y.2)) y.1) (-y.1) - 1 = m at *
  have w4 : IntKind.i64.wrap (0 - m) = -m := by rw [wr (by omega)]; omega
  simp only [w4]
  simp [outV, aI, nn, cond_eq_ite]
  (repeat' split) <;> simp_all
theorem ok42 (r : Int) : ev cx2 42 [aN r] = outV (aN (notR r)) := by
  rw [raw42]
  simp only [notR, outV, aN, cond_eq_ite, beq_iff_eq]; (repeat' split) <;> simp_all
theorem ok43 (r : Int) : ev cx2 43 [aN r] = outV (aN (turnR r)) := by
  rw [raw43]
  simp only [turnR, outV, aN, cond_eq_ite, beq_iff_eq]; (repeat' split) <;> simp_all
theorem ok56a (z : Int) : ev cx2 56 [aM1 z] = outV (.bool (fitB z)) := by
  rw [raw56a]
  simp only [fitB, outV, cond_eq_ite, decide_eq_true_eq]; (repeat' split) <;> simp <;> omega
theorem ok56b (z : Int × Int) : ev cx2 56 [aM2 z] = outV (.bool (fitB z.1 && fitB z.2)) := by
  rw [raw56b]
  simp only [fitB, outV, cond_eq_ite, decide_eq_true_eq]; (repeat' split) <;> simp <;> omega
theorem ok40 (r : Int) (x : I) (y : I) (hp : (isB x && isB y) = true) : ev cx2 40 [aN r, aI x, aI y] = outV (.tup [aI (refI r x y).1, aI (refI r x y).2]) := by
  rw [raw40]
  simp only [Bool.and_eq_true] at hp
  have h1 := isB_abs hp.1
  have h2 := isB_abs hp.2
  obtain ⟨hx, hy⟩ := hp
  simp only [show ((x.1, x.2) : I) = x from rfl, show ((y.1, y.2) : I) = y from rfl, hx, hy, cond_true]
  have w1 : IntKind.i64.wrap (y.2 - 1) = y.2 - 1 := wr (by omega)
  have w2 : IntKind.i64.wrap (x.1 + 1) = x.1 + 1 := wr (by omega)
  have w3 : IntKind.i64.wrap (y.1 + 1) = y.1 + 1 := wr (by omega)
  have w4 : IntKind.i64.wrap (x.2 - 1) = x.2 - 1 := wr (by omega)
  simp only [w1, w2, w3, w4, mn_def, mx_def]
  clear w1 w2 w3 w4 h1 h2 hx hy
  have ex : empB (x.1, x.2) = empB x := rfl
  have ey : empB (y.1, y.2) = empB y := rfl
  unfold refI both outV aI
  by_cases o1 : r = 1
  · subst o1
    have ec : empB ((x.1, mn x.2 (y.2 - 1)).1, (x.1, mn x.2 (y.2 - 1)).2) = empB (x.1, mn x.2 (y.2 - 1)) := rfl
    have ed : empB ((mx y.1 (x.1 + 1), y.2).1, (mx y.1 (x.1 + 1), y.2).2) = empB (mx y.1 (x.1 + 1), y.2) := rfl
    simp only [ec, ed] at *
    generalize empB x = b1
    generalize empB y = b2
    generalize empB (x.1, mn x.2 (y.2 - 1)) = b3
    generalize empB (mx y.1 (x.1 + 1), y.2) = b4
    cases b1 <;> cases b2 <;> cases b3 <;> cases b4 <;> simp [nn]
  by_cases o2 : r = 2
  · subst o2
    have ec : empB ((x.1, mn x.2 y.2).1, (x.1, mn x.2 y.2).2) = empB (x.1, mn x.2 y.2) := rfl
    have ed : empB ((mx y.1 x.1, y.2).1, (mx y.1 x.1, y.2).2) = empB (mx y.1 x.1, y.2) := rfl
    simp only [ec, ed] at *
    generalize empB x = b1
    generalize empB y = b2
    generalize empB (x.1, mn x.2 y.2) = b3
    generalize empB (mx y.1 x.1, y.2) = b4
    cases b1 <;> cases b2 <;> cases b3 <;> cases b4 <;> simp [nn]
  by_cases o5 : r = 5
  · subst o5
    have ec : empB ((mx x.1 y.1, x.2).1, (mx x.1 y.1, x.2).2) = empB (mx x.1 y.1, x.2) := rfl
    have ed : empB ((y.1, mn y.2 x.2).1, (y.1, mn y.2 x.2).2) = empB (y.1, mn y.2 x.2) := rfl
    simp only [ec, ed] at *
    generalize empB x = b1
    generalize empB y = b2
    generalize empB (mx x.1 y.1, x.2) = b3
    generalize empB (y.1, mn y.2 x.2) = b4
    cases b1 <;> cases b2 <;> cases b3 <;> cases b4 <;> simp [nn]
  by_cases o6 : r = 6
  · subst o6
    have ec : empB ((mx x.1 (y.1 + 1), x.2).1, (mx x.1 (y.1 + 1), x.2).2) = empB (mx x.1 (y.1 + 1), x.2) := rfl
    have ed : empB ((y.1, mn y.2 (x.2 - 1)).1, (y.1, mn y.2 (x.2 - 1)).2) = empB (y.1, mn y.2 (x.2 - 1)) := rfl
    simp only [ec, ed] at *
    generalize empB x = b1
    generalize empB y = b2
    generalize empB (mx x.1 (y.1 + 1), x.2) = b3
    generalize empB (y.1, mn y.2 (x.2 - 1)) = b4
    cases b1 <;> cases b2 <;> cases b3 <;> cases b4 <;> simp [nn]
  by_cases o3 : r = 3
  · subst o3
    have ec : empB ((iMeet x y).1, (iMeet x y).2) = empB (iMeet x y) := rfl
    have ed : empB ((iMeet x y).1, (iMeet x y).2) = empB (iMeet x y) := rfl
    simp only [ec, ed] at *
    generalize empB x = b1
    generalize empB y = b2
    generalize empB (iMeet x y) = b3
    
    cases b1 <;> cases b2 <;> cases b3 <;> simp [nn]
  by_cases o4 : r = 4
  · subst o4
    have ec : empB ((wout x y).1, (wout x y).2) = empB (wout x y) := rfl
    have ed : empB ((wout y x).1, (wout y x).2) = empB (wout y x) := rfl
    simp only [ec, ed] at *
    generalize empB x = b1
    generalize empB y = b2
    generalize empB (wout x y) = b3
    generalize empB (wout y x) = b4
    cases b1 <;> cases b2 <;> cases b3 <;> cases b4 <;> simp [nn]
  have e1 : (r == 1) = false := by simp [o1]
  have e2 : (r == 2) = false := by simp [o2]
  have e3 : (r == 3) = false := by simp [o3]
  have e4 : (r == 4) = false := by simp [o4]
  have e5 : (r == 5) = false := by simp [o5]
  have e6 : (r == 6) = false := by simp [o6]
  simp [o1, o2, o3, o4, o5, o6, nn, e1, e2, e3, e4, e5, e6]
theorem ok53 (x : I) (y : I) (d : Bool) (hp : (isB x && isB y && (!d || noZ y)) = true) : ev cx2 53 [aI x, aI y, .bool d] = outV (.tup [aN (if d then div4 x y else mul4 x y).1, aN (if d then div4 x y else mul4 x y).2]) := by
  rw [raw53]
  simp only [Bool.and_eq_true] at hp
  have h1 := isB_abs hp.1.1
  have h3 := isB_abs hp.1.2
  cases d with
  | false =>
    simp only [wr (mul_abs h1.1 h3.1), wr (mul_abs h1.1 h3.2), wr (mul_abs h1.2 h3.1), wr (mul_abs h1.2 h3.2), mn_def, mx_def]
    rfl
  | true =>
    have h2 := hp.2
    simp only [noZ, Bool.not_true, Bool.false_or, Bool.and_eq_true, Bool.not_eq_true', beq_eq_false_iff_ne] at h2
    simp only [h2.1, h2.2, decide_false, cond_false, cond_true, wr (div_abs (Nat.le_trans h1.1 (by omega : 2147483648 ≤ 4611686018427387904))), wr (div_abs (Nat.le_trans h1.2 (by omega : 2147483648 ≤ 4611686018427387904))), mn_def, mx_def]
    rfl
def M16 : List AV → Option (Bool × AV × List Blk)
  | [v_x, v_y] => (gI v_x).bind fun x => (gI v_y).bind fun y => some (true, .bool (isB x && isB y), [])
  | _ => none
theorem hM16 (args : List AV) (v : AV) (bs : List Blk) (h : M16 args = some (true, v, bs)) : AV.idsL args = [] ∧ (true = true ∨ (plainV v = true ∧ bs.all plainB = true)) ∧ ∃ fb, ex ((evF cx2 keeps 3 16 args).bind (finP true)) false ⟨[], 0⟩ ⟨[], []⟩ = some (v, ⟨enumB 0 bs, bs.length⟩, fb) := by
  unfold M16 at h
  split at h
  · obtain ⟨x, h_x, h0⟩ := Option.bind_eq_some_iff.1 h
    obtain ⟨y, h_y, h1⟩ := Option.bind_eq_some_iff.1 h0
    simp only [Option.some.injEq, Prod.mk.injEq] at h1
    obtain ⟨_, rfl, rfl⟩ := h1
    have e_x := gI_some h_x
    have e_y := gI_some h_y
    subst e_x e_y
    exact ⟨rfl, .inl rfl, ev_ex (ok16 x y)⟩
  · cases h
theorem snd16 : SoundA Try.prog 16 (specP true M16) := soundA_spec (fz := true) (cal2 16) hM16
def M35 : List AV → Option (Bool × AV × List Blk)
  | [v_x, v_y] => (gI v_x).bind fun x => (gI v_y).bind fun y => some (true, aI (mSpan x y), [])
  | _ => none
theorem hM35 (args : List AV) (v : AV) (bs : List Blk) (h : M35 args = some (true, v, bs)) : AV.idsL args = [] ∧ (true = true ∨ (plainV v = true ∧ bs.all plainB = true)) ∧ ∃ fb, ex ((evF cx2 keeps 3 35 args).bind (finP true)) false ⟨[], 0⟩ ⟨[], []⟩ = some (v, ⟨enumB 0 bs, bs.length⟩, fb) := by
  unfold M35 at h
  split at h
  · obtain ⟨x, h_x, h0⟩ := Option.bind_eq_some_iff.1 h
    obtain ⟨y, h_y, h1⟩ := Option.bind_eq_some_iff.1 h0
    simp only [Option.some.injEq, Prod.mk.injEq] at h1
    obtain ⟨_, rfl, rfl⟩ := h1
    have e_x := gI_some h_x
    have e_y := gI_some h_y
    subst e_x e_y
    exact ⟨rfl, .inl rfl, ev_ex (ok35 x y)⟩
  · cases h
theorem snd35 : SoundA Try.prog 35 (specP true M35) := soundA_spec (fz := true) (cal2 35) hM35
def M47M : List AV → Option (Bool × AV × List Blk)
  | [v_x, v_y, .clo 48 [] []] => (gI v_x).bind fun x => (gI v_y).bind fun y => some ((isB x && isB y), aI (mul4 x y), [])
  | _ => none
theorem hM47M (args : List AV) (v : AV) (bs : List Blk) (h : M47M args = some (true, v, bs)) : AV.idsL args = [] ∧ (true = true ∨ (plainV v = true ∧ bs.all plainB = true)) ∧ ∃ fb, ex ((evF cx2 keeps 3 47 args).bind (finP true)) false ⟨[], 0⟩ ⟨[], []⟩ = some (v, ⟨enumB 0 bs, bs.length⟩, fb) := by
  unfold M47M at h
  split at h
  · obtain ⟨x, h_x, h0⟩ := Option.bind_eq_some_iff.1 h
    obtain ⟨y, h_y, h1⟩ := Option.bind_eq_some_iff.1 h0
    simp only [Option.some.injEq, Prod.mk.injEq] at h1
    obtain ⟨hp, rfl, rfl⟩ := h1
    have e_x := gI_some h_x
    have e_y := gI_some h_y
    subst e_x e_y
    exact ⟨rfl, .inl rfl, ev_ex (ok47M x y hp)⟩
  · cases h
def M47D : List AV → Option (Bool × AV × List Blk)
  | [v_x, v_y, .clo 61 [] []] => (gI v_x).bind fun x => (gI v_y).bind fun y => some ((isB x && isB y && noZ y), aI (div4 x y), [])
  | _ => none
theorem hM47D (args : List AV) (v : AV) (bs : List Blk) (h : M47D args = some (true, v, bs)) : AV.idsL args = [] ∧ (true = true ∨ (plainV v = true ∧ bs.all plainB = true)) ∧ ∃ fb, ex ((evF cx2 keeps 3 47 args).bind (finP true)) false ⟨[], 0⟩ ⟨[], []⟩ = some (v, ⟨enumB 0 bs, bs.length⟩, fb) := by
  unfold M47D at h
  split at h
  · obtain ⟨x, h_x, h0⟩ := Option.bind_eq_some_iff.1 h
    obtain ⟨y, h_y, h1⟩ := Option.bind_eq_some_iff.1 h0
    simp only [Option.some.injEq, Prod.mk.injEq] at h1
    obtain ⟨hp, rfl, rfl⟩ := h1
    have e_x := gI_some h_x
    have e_y := gI_some h_y
    subst e_x e_y
    exact ⟨rfl, .inl rfl, ev_ex (ok47D x y hp)⟩
  · cases h
def M47 (l : List AV) : Option (Bool × AV × List Blk) := match M47M l with
    | some r => some r
    | none => M47D l
theorem hM47 (args : List AV) (v : AV) (bs : List Blk) (h : M47 args = some (true, v, bs)) : AV.idsL args = [] ∧ (true = true ∨ (plainV v = true ∧ bs.all plainB = true)) ∧ ∃ fb, ex ((evF cx2 keeps 3 47 args).bind (finP true)) false ⟨[], 0⟩ ⟨[], []⟩ = some (v, ⟨enumB 0 bs, bs.length⟩, fb) := by
  unfold M47 at h
  split at h
  · rename_i hr; cases h; exact hM47M _ _ _ hr
  · exact hM47D _ _ _ h
theorem snd47 : SoundA Try.prog 47 (specP true M47) := soundA_spec (fz := true) (cal2 47) hM47
def M52 : List AV → Option (Bool × AV × List Blk)
  | [v_a, v_b] => (gN v_a).bind fun a => (gN v_b).bind fun b => some (true, .tup [aI (clipV a b), .bool (clipO a b)], [])
  | _ => none
theorem hM52 (args : List AV) (v : AV) (bs : List Blk) (h : M52 args = some (true, v, bs)) : AV.idsL args = [] ∧ (true = true ∨ (plainV v = true ∧ bs.all plainB = true)) ∧ ∃ fb, ex ((evF cx2 keeps 3 52 args).bind (finP true)) false ⟨[], 0⟩ ⟨[], []⟩ = some (v, ⟨enumB 0 bs, bs.length⟩, fb) := by
  unfold M52 at h
  split at h
  · obtain ⟨a, h_a, h0⟩ := Option.bind_eq_some_iff.1 h
    obtain ⟨b, h_b, h1⟩ := Option.bind_eq_some_iff.1 h0
    simp only [Option.some.injEq, Prod.mk.injEq] at h1
    obtain ⟨_, rfl, rfl⟩ := h1
    have e_a := gN_some h_a
    have e_b := gN_some h_b
    subst e_a e_b
    exact ⟨rfl, .inl rfl, ev_ex (ok52 a b)⟩
  · cases h
theorem snd52 : SoundA Try.prog 52 (specP true M52) := soundA_spec (fz := true) (cal2 52) hM52
def M60 : List AV → Option (Bool × AV × List Blk)
  | [v_x, v_y] => (gI v_x).bind fun x => (gI v_y).bind fun y => some ((isB x), aI (oth x y), [])
  | _ => none
theorem hM60 (args : List AV) (v : AV) (bs : List Blk) (h : M60 args = some (true, v, bs)) : AV.idsL args = [] ∧ (true = true ∨ (plainV v = true ∧ bs.all plainB = true)) ∧ ∃ fb, ex ((evF cx2 keeps 3 60 args).bind (finP true)) false ⟨[], 0⟩ ⟨[], []⟩ = some (v, ⟨enumB 0 bs, bs.length⟩, fb) := by
  unfold M60 at h
  split at h
  · obtain ⟨x, h_x, h0⟩ := Option.bind_eq_some_iff.1 h
    obtain ⟨y, h_y, h1⟩ := Option.bind_eq_some_iff.1 h0
    simp only [Option.some.injEq, Prod.mk.injEq] at h1
    obtain ⟨hp, rfl, rfl⟩ := h1
    have e_x := gI_some h_x
    have e_y := gI_some h_y
    subst e_x e_y
    exact ⟨rfl, .inl rfl, ev_ex (ok60 x y hp)⟩
  · cases h
theorem snd60 : SoundA Try.prog 60 (specP true M60) := soundA_spec (fz := true) (cal2 60) hM60
def M55 : List AV → Option (Bool × AV × List Blk)
  | [v_x, v_y] => (gI v_x).bind fun x => (gI v_y).bind fun y => some ((isB x && isB y), aI (remI x y), [])
  | _ => none
theorem hM55 (args : List AV) (v : AV) (bs : List Blk) (h : M55 args = some (true, v, bs)) : AV.idsL args = [] ∧ (true = true ∨ (plainV v = true ∧ bs.all plainB = true)) ∧ ∃ fb, ex ((evF cx2 keeps 3 55 args).bind (finP true)) false ⟨[], 0⟩ ⟨[], []⟩ = some (v, ⟨enumB 0 bs, bs.length⟩, fb) := by
  unfold M55 at h
  split at h
  · obtain ⟨x, h_x, h0⟩ := Option.bind_eq_some_iff.1 h
    obtain ⟨y, h_y, h1⟩ := Option.bind_eq_some_iff.1 h0
    simp only [Option.some.injEq, Prod.mk.injEq] at h1
    obtain ⟨hp, rfl, rfl⟩ := h1
    have e_x := gI_some h_x
    have e_y := gI_some h_y
    subst e_x e_y
    exact ⟨rfl, .inl rfl, ev_ex (ok55 x y hp)⟩
  · cases h
theorem snd55 : SoundA Try.prog 55 (specP true M55) := soundA_spec (fz := true) (cal2 55) hM55
def M42 : List AV → Option (Bool × AV × List Blk)
  | [v_r] => (gN v_r).bind fun r => some (true, aN (notR r), [])
  | _ => none
theorem hM42 (args : List AV) (v : AV) (bs : List Blk) (h : M42 args = some (true, v, bs)) : AV.idsL args = [] ∧ (true = true ∨ (plainV v = true ∧ bs.all plainB = true)) ∧ ∃ fb, ex ((evF cx2 keeps 3 42 args).bind (finP true)) false ⟨[], 0⟩ ⟨[], []⟩ = some (v, ⟨enumB 0 bs, bs.length⟩, fb) := by
  unfold M42 at h
  split at h
  · obtain ⟨r, h_r, h0⟩ := Option.bind_eq_some_iff.1 h
    simp only [Option.some.injEq, Prod.mk.injEq] at h0
    obtain ⟨_, rfl, rfl⟩ := h0
    have e_r := gN_some h_r
    subst e_r
    exact ⟨rfl, .inl rfl, ev_ex (ok42 r)⟩
  · cases h
theorem snd42 : SoundA Try.prog 42 (specP true M42) := soundA_spec (fz := true) (cal2 42) hM42
def M43 : List AV → Option (Bool × AV × List Blk)
  | [v_r] => (gN v_r).bind fun r => some (true, aN (turnR r), [])
  | _ => none
theorem hM43 (args : List AV) (v : AV) (bs : List Blk) (h : M43 args = some (true, v, bs)) : AV.idsL args = [] ∧ (true = true ∨ (plainV v = true ∧ bs.all plainB = true)) ∧ ∃ fb, ex ((evF cx2 keeps 3 43 args).bind (finP true)) false ⟨[], 0⟩ ⟨[], []⟩ = some (v, ⟨enumB 0 bs, bs.length⟩, fb) := by
  unfold M43 at h
  split at h
  · obtain ⟨r, h_r, h0⟩ := Option.bind_eq_some_iff.1 h
    simp only [Option.some.injEq, Prod.mk.injEq] at h0
    obtain ⟨_, rfl, rfl⟩ := h0
    have e_r := gN_some h_r
    subst e_r
    exact ⟨rfl, .inl rfl, ev_ex (ok43 r)⟩
  · cases h
theorem snd43 : SoundA Try.prog 43 (specP true M43) := soundA_spec (fz := true) (cal2 43) hM43
def M56a : List AV → Option (Bool × AV × List Blk)
  | [v_z] => (gM1 v_z).bind fun z => some (true, .bool (fitB z), [])
  | _ => none
theorem hM56a (args : List AV) (v : AV) (bs : List Blk) (h : M56a args = some (true, v, bs)) : AV.idsL args = [] ∧ (true = true ∨ (plainV v = true ∧ bs.all plainB = true)) ∧ ∃ fb, ex ((evF cx2 keeps 3 56 args).bind (finP true)) false ⟨[], 0⟩ ⟨[], []⟩ = some (v, ⟨enumB 0 bs, bs.length⟩, fb) := by
  unfold M56a at h
  split at h
  · obtain ⟨z, h_z, h0⟩ := Option.bind_eq_some_iff.1 h
    simp only [Option.some.injEq, Prod.mk.injEq] at h0
    obtain ⟨_, rfl, rfl⟩ := h0
    have e_z := gM1_some h_z
    subst e_z
    exact ⟨rfl, .inl rfl, ev_ex (ok56a z)⟩
  · cases h
def M56b : List AV → Option (Bool × AV × List Blk)
  | [v_z] => (gM2 v_z).bind fun z => some (true, .bool (fitB z.1 && fitB z.2), [])
  | _ => none
theorem hM56b (args : List AV) (v : AV) (bs : List Blk) (h : M56b args = some (true, v, bs)) : AV.idsL args = [] ∧ (true = true ∨ (plainV v = true ∧ bs.all plainB = true)) ∧ ∃ fb, ex ((evF cx2 keeps 3 56 args).bind (finP true)) false ⟨[], 0⟩ ⟨[], []⟩ = some (v, ⟨enumB 0 bs, bs.length⟩, fb) := by
  unfold M56b at h
  split at h
  · obtain ⟨z, h_z, h0⟩ := Option.bind_eq_some_iff.1 h
    simp only [Option.some.injEq, Prod.mk.injEq] at h0
    obtain ⟨_, rfl, rfl⟩ := h0
    have e_z := gM2_some h_z
    subst e_z
    exact ⟨rfl, .inl rfl, ev_ex (ok56b z)⟩
  · cases h
def M56 (l : List AV) : Option (Bool × AV × List Blk) := match M56a l with
    | some r => some r
    | none => M56b l
theorem hM56 (args : List AV) (v : AV) (bs : List Blk) (h : M56 args = some (true, v, bs)) : AV.idsL args = [] ∧ (true = true ∨ (plainV v = true ∧ bs.all plainB = true)) ∧ ∃ fb, ex ((evF cx2 keeps 3 56 args).bind (finP true)) false ⟨[], 0⟩ ⟨[], []⟩ = some (v, ⟨enumB 0 bs, bs.length⟩, fb) := by
  unfold M56 at h
  split at h
  · rename_i hr; cases h; exact hM56a _ _ _ hr
  · exact hM56b _ _ _ h
theorem snd56 : SoundA Try.prog 56 (specP true M56) := soundA_spec (fz := true) (cal2 56) hM56
def M40 : List AV → Option (Bool × AV × List Blk)
  | [v_r, v_x, v_y] => (gN v_r).bind fun r => (gI v_x).bind fun x => (gI v_y).bind fun y => some ((isB x && isB y), .tup [aI (refI r x y).1, aI (refI r x y).2], [])
  | _ => none
theorem hM40 (args : List AV) (v : AV) (bs : List Blk) (h : M40 args = some (true, v, bs)) : AV.idsL args = [] ∧ (true = true ∨ (plainV v = true ∧ bs.all plainB = true)) ∧ ∃ fb, ex ((evF cx2 keeps 3 40 args).bind (finP true)) false ⟨[], 0⟩ ⟨[], []⟩ = some (v, ⟨enumB 0 bs, bs.length⟩, fb) := by
  unfold M40 at h
  split at h
  · obtain ⟨r, h_r, h0⟩ := Option.bind_eq_some_iff.1 h
    obtain ⟨x, h_x, h1⟩ := Option.bind_eq_some_iff.1 h0
    obtain ⟨y, h_y, h2⟩ := Option.bind_eq_some_iff.1 h1
    simp only [Option.some.injEq, Prod.mk.injEq] at h2
    obtain ⟨hp, rfl, rfl⟩ := h2
    have e_r := gN_some h_r
    have e_x := gI_some h_x
    have e_y := gI_some h_y
    subst e_r e_x e_y
    exact ⟨rfl, .inl rfl, ev_ex (ok40 r x y hp)⟩
  · cases h
theorem snd40 : SoundA Try.prog 40 (specP true M40) := soundA_spec (fz := true) (cal2 40) hM40
def M53 : List AV → Option (Bool × AV × List Blk)
  | [v_x, v_y, v_d] => (gI v_x).bind fun x => (gI v_y).bind fun y => (gB v_d).bind fun d => some ((isB x && isB y && (!d || noZ y)), .tup [aN (if d then div4 x y else mul4 x y).1, aN (if d then div4 x y else mul4 x y).2], [])
  | _ => none
theorem hM53 (args : List AV) (v : AV) (bs : List Blk) (h : M53 args = some (true, v, bs)) : AV.idsL args = [] ∧ (true = true ∨ (plainV v = true ∧ bs.all plainB = true)) ∧ ∃ fb, ex ((evF cx2 keeps 3 53 args).bind (finP true)) false ⟨[], 0⟩ ⟨[], []⟩ = some (v, ⟨enumB 0 bs, bs.length⟩, fb) := by
  unfold M53 at h
  split at h
  · obtain ⟨x, h_x, h0⟩ := Option.bind_eq_some_iff.1 h
    obtain ⟨y, h_y, h1⟩ := Option.bind_eq_some_iff.1 h0
    obtain ⟨d, h_d, h2⟩ := Option.bind_eq_some_iff.1 h1
    simp only [Option.some.injEq, Prod.mk.injEq] at h2
    obtain ⟨hp, rfl, rfl⟩ := h2
    have e_x := gI_some h_x
    have e_y := gI_some h_y
    have e_d := gB_some h_d
    subst e_x e_y e_d
    exact ⟨rfl, .inl rfl, ev_ex (ok53 x y d hp)⟩
  · cases h
theorem snd53 : SoundA Try.prog 53 (specP true M53) := soundA_spec (fz := true) (cal2 53) hM53
end Go.Proofs.Ytcmmchpofkoddaa.Ex

