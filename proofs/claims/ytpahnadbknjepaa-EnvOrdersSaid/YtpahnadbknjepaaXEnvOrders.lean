/- For every input EnvOrders returns true, and its arguments read as they did. No condition. -/
import Derived.Test.YtpahnadbknjepaaXG
import Derived.ProofKit
import Derived.Handed
import Derived.SizedLaws
import Derived.JoinedOf
namespace Go.Proofs.Ytpahnadbknjepaa.Ex
open Go.Proofs Go.Proofs.Ytpahnadbknjepaa
set_option maxRecDepth 100000
set_option linter.unusedSimpArgs false
set_option linter.unusedVariables false
def sp5 : Nat → Option (List AV → Prog AV)
  | 46 => some (specP true M46)
  | 55 => some (specP true M55)
  | 45 => some (specP true M45)
  | 37 => some (specP true M37)
  | 38 => some (specP true M38)
  | 31 => some (specP true M31)
  | 36 => some (specP true M36)
  | 43 => some (specP true M43)
  | 44 => some (specP true M44)
  | 50 => some (specP true M50)
  | 54 => some (specP true M54)
  | 20 => some (specP true M20)
  | 39 => some (specP true M39)
  | 26 => some (specP true M26)
  | 52 => some (specP true M52)
  | 51 => some (specP true M51)
  | 40 => some (specP true M40)
  | 29 => some (specP true M29)
  | 28 => some (specP true M28)
  | 35 => some (specP true M35)
  | 30 => some (specP true M30)
  | 22 => some (specP true M22)
  | 15 => some (specP true M15)
  | 8 => some (specP true M8)
  | 13 => some (specP true M13)
  | 14 => some (specP true M14)
  | 10 => some (specP true M10)
  | 11 => some (specP true M11N)
  | 12 => some (specP true M12)
  | _ => none
noncomputable def cx5 : Ctx := { tab := tab, spec := sp5, inl := inl, lps := fun _ _ => none, fuel := 10 }
theorem hsp5 : ∀ g p, cx5.spec g = some p → SoundA Try.prog g p := by
  intro g p h
  change sp5 g = some p at h
  unfold sp5 at h
  split at h
  · cases h; exact snd46
  · cases h; exact snd55
  · cases h; exact snd45
  · cases h; exact snd37
  · cases h; exact snd38
  · cases h; exact snd31
  · cases h; exact snd36
  · cases h; exact snd43
  · cases h; exact snd44
  · cases h; exact snd50
  · cases h; exact snd54
  · cases h; exact snd20
  · cases h; exact snd39
  · cases h; exact snd26
  · cases h; exact snd52
  · cases h; exact snd51
  · cases h; exact snd40
  · cases h; exact snd29
  · cases h; exact snd28
  · cases h; exact snd35
  · cases h; exact snd30
  · cases h; exact snd22
  · cases h; exact snd15
  · cases h; exact snd8
  · cases h; exact snd13
  · cases h; exact snd14
  · cases h; exact snd10
  · cases h; exact snd11
  · cases h; exact snd12
  · cases h
theorem in5 : InlOk Try.prog cx5 := ⟨inl_ok, fun _ _ _ _ _ _ _ _ h => nomatch h⟩
theorem cal5 (g : Nat) : SoundA Try.prog g (evF cx5 keeps 3 g) := evF_sound (tabOk_of tab_ok) (cmpsOk_of tab_ok cmps_ok) mixed in5 hsp5 keeps 3 g
open Go.ChangeShapes Go.WideShapes Go.ChangeAt Go.RowKit
theorem raw4 (a : E) (b : E) (c : E) (l : List Int) (n : Int) : ev cx5 4 [aE a, aE b, aE c, aLi l, aN n] =
  bif Go.Proofs.Ytpahnadbknjepaa.Ex.okLE [a, b, c] then
    bif !Go.Proofs.Ytpahnadbknjepaa.Ex.fitsB [a, b, c] then Option.some (Go.Proofs.Ytpahnadbknjepaa.Ex.AV.bool Bool.true, { blks := [], c := 0 })
    else
      bif Decidable.decide ((↑l.length : Int) > 120) then Option.some (Go.Proofs.Ytpahnadbknjepaa.Ex.AV.bool Bool.true, { blks := [], c := 0 })
      else
        bif Decidable.decide (n < 0) then Option.some (Go.Proofs.Ytpahnadbknjepaa.Ex.AV.bool Bool.true, { blks := [], c := 0 })
        else
          bif Decidable.decide (n ≥ 2147483648) then Option.some (Go.Proofs.Ytpahnadbknjepaa.Ex.AV.bool Bool.true, { blks := [], c := 0 })
          else
            bif Go.Proofs.Ytpahnadbknjepaa.Ex.okE a then
              bif Go.Proofs.Ytpahnadbknjepaa.Ex.okE b then
                bif Go.Proofs.Ytpahnadbknjepaa.Ex.leqE a b then
                  bif Go.Proofs.Ytpahnadbknjepaa.Ex.leqE b c then
                    bif Go.Proofs.Ytpahnadbknjepaa.Ex.okE a then
                      bif !Go.Proofs.Ytpahnadbknjepaa.Ex.leqE a c then Option.some (Go.Proofs.Ytpahnadbknjepaa.Ex.AV.bool Bool.false, { blks := [], c := 0 })
                      else
                        bif Go.Proofs.Ytpahnadbknjepaa.Ex.leqE a b then
                          bif Go.Proofs.Ytpahnadbknjepaa.Ex.okE b then
                            bif Go.Proofs.Ytpahnadbknjepaa.Ex.leqE b a then
                              bif Go.Proofs.Ytpahnadbknjepaa.Ex.okE a then
                                bif !Go.Proofs.Ytpahnadbknjepaa.Ex.sameE a b then Option.some (Go.Proofs.Ytpahnadbknjepaa.Ex.AV.bool Bool.false, { blks := [], c := 0 })
                                else
                                  bif !Go.Proofs.Ytpahnadbknjepaa.Ex.leqE a b then
                                    bif Go.Proofs.Ytpahnadbknjepaa.Ex.okE a then
                                      bif Go.Proofs.Ytpahnadbknjepaa.Ex.okE a then
                                        bif Go.Proofs.Ytpahnadbknjepaa.Ex.sameE a b == Go.Proofs.Ytpahnadbknjepaa.Ex.sameE a b then Option.some (Go.Proofs.Ytpahnadbknjepaa.Ex.AV.bool Bool.true, { blks := [], c := 0 })
                                        else Option.some (Go.Proofs.Ytpahnadbknjepaa.Ex.AV.bool Bool.false, { blks := [], c := 0 })
                                      else Option.none
                                    else Option.none
                                  else
                                    bif Go.Proofs.Ytpahnadbknjepaa.Ex.okLn l then
                                      bif !Go.Proofs.Ytpahnadbknjepaa.Ex.hasE a l n then
                                        bif Go.Proofs.Ytpahnadbknjepaa.Ex.okE a then
                                          bif Go.Proofs.Ytpahnadbknjepaa.Ex.okE a then
                                            bif Go.Proofs.Ytpahnadbknjepaa.Ex.sameE a b == Go.Proofs.Ytpahnadbknjepaa.Ex.sameE a b then Option.some (Go.Proofs.Ytpahnadbknjepaa.Ex.AV.bool Bool.true, { blks := [], c := 0 })
                                            else Option.some (Go.Proofs.Ytpahnadbknjepaa.Ex.AV.bool Bool.false, { blks := [], c := 0 })
                                          else Option.none
                                        else Option.none
                                      else
                                        bif Go.Proofs.Ytpahnadbknjepaa.Ex.okLn l then
                                          bif Go.Proofs.Ytpahnadbknjepaa.Ex.hasE b l n then
                                            bif Go.Proofs.Ytpahnadbknjepaa.Ex.okE a then
                                              bif Go.Proofs.Ytpahnadbknjepaa.Ex.okE a then
                                                bif Go.Proofs.Ytpahnadbknjepaa.Ex.sameE a b == Go.Proofs.Ytpahnadbknjepaa.Ex.sameE a b then Option.some (Go.Proofs.Ytpahnadbknjepaa.Ex.AV.bool Bool.true, { blks := [], c := 0 })
                                                else Option.some (Go.Proofs.Ytpahnadbknjepaa.Ex.AV.bool Bool.false, { blks := [], c := 0 })
                                              else Option.none
                                            else Option.none
                                          else Option.some (Go.Proofs.Ytpahnadbknjepaa.Ex.AV.bool Bool.false, { blks := [], c := 0 })
                                        else Option.none
                                    else Option.none
                              else Option.none
                            else
                              bif !Go.Proofs.Ytpahnadbknjepaa.Ex.leqE a b then
                                bif Go.Proofs.Ytpahnadbknjepaa.Ex.okE a then
                                  bif Go.Proofs.Ytpahnadbknjepaa.Ex.okE a then
                                    bif Go.Proofs.Ytpahnadbknjepaa.Ex.sameE a b == Go.Proofs.Ytpahnadbknjepaa.Ex.sameE a b then Option.some (Go.Proofs.Ytpahnadbknjepaa.Ex.AV.bool Bool.true, { blks := [], c := 0 })
                                    else Option.some (Go.Proofs.Ytpahnadbknjepaa.Ex.AV.bool Bool.false, { blks := [], c := 0 })
                                  else Option.none
                                else Option.none
                              else
                                bif Go.Proofs.Ytpahnadbknjepaa.Ex.okLn l then
                                  bif !Go.Proofs.Ytpahnadbknjepaa.Ex.hasE a l n then
                                    bif Go.Proofs.Ytpahnadbknjepaa.Ex.okE a then
                                      bif Go.Proofs.Ytpahnadbknjepaa.Ex.okE a then
                                        bif Go.Proofs.Ytpahnadbknjepaa.Ex.sameE a b == Go.Proofs.Ytpahnadbknjepaa.Ex.sameE a b then Option.some (Go.Proofs.Ytpahnadbknjepaa.Ex.AV.bool Bool.true, { blks := [], c := 0 })
                                        else Option.some (Go.Proofs.Ytpahnadbknjepaa.Ex.AV.bool Bool.false, { blks := [], c := 0 })
                                      else Option.none
                                    else Option.none
                                  else
                                    bif Go.Proofs.Ytpahnadbknjepaa.Ex.okLn l then
                                      bif Go.Proofs.Ytpahnadbknjepaa.Ex.hasE b l n then
                                        bif Go.Proofs.Ytpahnadbknjepaa.Ex.okE a then
                                          bif Go.Proofs.Ytpahnadbknjepaa.Ex.okE a then
                                            bif Go.Proofs.Ytpahnadbknjepaa.Ex.sameE a b == Go.Proofs.Ytpahnadbknjepaa.Ex.sameE a b then Option.some (Go.Proofs.Ytpahnadbknjepaa.Ex.AV.bool Bool.true, { blks := [], c := 0 })
                                            else Option.some (Go.Proofs.Ytpahnadbknjepaa.Ex.AV.bool Bool.false, { blks := [], c := 0 })
                                          else Option.none
                                        else Option.none
                                      else Option.some (Go.Proofs.Ytpahnadbknjepaa.Ex.AV.bool Bool.false, { blks := [], c := 0 })
                                    else Option.none
                                else Option.none
                          else Option.none
                        else
                          bif !Go.Proofs.Ytpahnadbknjepaa.Ex.leqE a b then
                            bif Go.Proofs.Ytpahnadbknjepaa.Ex.okE a then
                              bif Go.Proofs.Ytpahnadbknjepaa.Ex.okE a then
                                bif Go.Proofs.Ytpahnadbknjepaa.Ex.sameE a b == Go.Proofs.Ytpahnadbknjepaa.Ex.sameE a b then Option.some (Go.Proofs.Ytpahnadbknjepaa.Ex.AV.bool Bool.true, { blks := [], c := 0 })
                                else Option.some (Go.Proofs.Ytpahnadbknjepaa.Ex.AV.bool Bool.false, { blks := [], c := 0 })
                              else Option.none
                            else Option.none
                          else
                            bif Go.Proofs.Ytpahnadbknjepaa.Ex.okLn l then
                              bif !Go.Proofs.Ytpahnadbknjepaa.Ex.hasE a l n then
                                bif Go.Proofs.Ytpahnadbknjepaa.Ex.okE a then
                                  bif Go.Proofs.Ytpahnadbknjepaa.Ex.okE a then
                                    bif Go.Proofs.Ytpahnadbknjepaa.Ex.sameE a b == Go.Proofs.Ytpahnadbknjepaa.Ex.sameE a b then Option.some (Go.Proofs.Ytpahnadbknjepaa.Ex.AV.bool Bool.true, { blks := [], c := 0 })
                                    else Option.some (Go.Proofs.Ytpahnadbknjepaa.Ex.AV.bool Bool.false, { blks := [], c := 0 })
                                  else Option.none
                                else Option.none
                              else
                                bif Go.Proofs.Ytpahnadbknjepaa.Ex.okLn l then
                                  bif Go.Proofs.Ytpahnadbknjepaa.Ex.hasE b l n then
                                    bif Go.Proofs.Ytpahnadbknjepaa.Ex.okE a then
                                      bif Go.Proofs.Ytpahnadbknjepaa.Ex.okE a then
                                        bif Go.Proofs.Ytpahnadbknjepaa.Ex.sameE a b == Go.Proofs.Ytpahnadbknjepaa.Ex.sameE a b then Option.some (Go.Proofs.Ytpahnadbknjepaa.Ex.AV.bool Bool.true, { blks := [], c := 0 })
                                        else Option.some (Go.Proofs.Ytpahnadbknjepaa.Ex.AV.bool Bool.false, { blks := [], c := 0 })
                                      else Option.none
                                    else Option.none
                                  else Option.some (Go.Proofs.Ytpahnadbknjepaa.Ex.AV.bool Bool.false, { blks := [], c := 0 })
                                else Option.none
                            else Option.none
                    else Option.none
                  else
                    bif Go.Proofs.Ytpahnadbknjepaa.Ex.leqE a b then
                      bif Go.Proofs.Ytpahnadbknjepaa.Ex.okE b then
                        bif Go.Proofs.Ytpahnadbknjepaa.Ex.leqE b a then
                          bif Go.Proofs.Ytpahnadbknjepaa.Ex.okE a then
                            bif !Go.Proofs.Ytpahnadbknjepaa.Ex.sameE a b then Option.some (Go.Proofs.Ytpahnadbknjepaa.Ex.AV.bool Bool.false, { blks := [], c := 0 })
                            else
                              bif !Go.Proofs.Ytpahnadbknjepaa.Ex.leqE a b then
                                bif Go.Proofs.Ytpahnadbknjepaa.Ex.okE a then
                                  bif Go.Proofs.Ytpahnadbknjepaa.Ex.okE a then
                                    bif Go.Proofs.Ytpahnadbknjepaa.Ex.sameE a b == Go.Proofs.Ytpahnadbknjepaa.Ex.sameE a b then Option.some (Go.Proofs.Ytpahnadbknjepaa.Ex.AV.bool Bool.true, { blks := [], c := 0 })
                                    else Option.some (Go.Proofs.Ytpahnadbknjepaa.Ex.AV.bool Bool.false, { blks := [], c := 0 })
                                  else Option.none
                                else Option.none
                              else
                                bif Go.Proofs.Ytpahnadbknjepaa.Ex.okLn l then
                                  bif !Go.Proofs.Ytpahnadbknjepaa.Ex.hasE a l n then
                                    bif Go.Proofs.Ytpahnadbknjepaa.Ex.okE a then
                                      bif Go.Proofs.Ytpahnadbknjepaa.Ex.okE a then
                                        bif Go.Proofs.Ytpahnadbknjepaa.Ex.sameE a b == Go.Proofs.Ytpahnadbknjepaa.Ex.sameE a b then Option.some (Go.Proofs.Ytpahnadbknjepaa.Ex.AV.bool Bool.true, { blks := [], c := 0 })
                                        else Option.some (Go.Proofs.Ytpahnadbknjepaa.Ex.AV.bool Bool.false, { blks := [], c := 0 })
                                      else Option.none
                                    else Option.none
                                  else
                                    bif Go.Proofs.Ytpahnadbknjepaa.Ex.okLn l then
                                      bif Go.Proofs.Ytpahnadbknjepaa.Ex.hasE b l n then
                                        bif Go.Proofs.Ytpahnadbknjepaa.Ex.okE a then
                                          bif Go.Proofs.Ytpahnadbknjepaa.Ex.okE a then
                                            bif Go.Proofs.Ytpahnadbknjepaa.Ex.sameE a b == Go.Proofs.Ytpahnadbknjepaa.Ex.sameE a b then Option.some (Go.Proofs.Ytpahnadbknjepaa.Ex.AV.bool Bool.true, { blks := [], c := 0 })
                                            else Option.some (Go.Proofs.Ytpahnadbknjepaa.Ex.AV.bool Bool.false, { blks := [], c := 0 })
                                          else Option.none
                                        else Option.none
                                      else Option.some (Go.Proofs.Ytpahnadbknjepaa.Ex.AV.bool Bool.false, { blks := [], c := 0 })
                                    else Option.none
                                else Option.none
                          else Option.none
                        else
                          bif !Go.Proofs.Ytpahnadbknjepaa.Ex.leqE a b then
                            bif Go.Proofs.Ytpahnadbknjepaa.Ex.okE a then
                              bif Go.Proofs.Ytpahnadbknjepaa.Ex.okE a then
                                bif Go.Proofs.Ytpahnadbknjepaa.Ex.sameE a b == Go.Proofs.Ytpahnadbknjepaa.Ex.sameE a b then Option.some (Go.Proofs.Ytpahnadbknjepaa.Ex.AV.bool Bool.true, { blks := [], c := 0 })
                                else Option.some (Go.Proofs.Ytpahnadbknjepaa.Ex.AV.bool Bool.false, { blks := [], c := 0 })
                              else Option.none
                            else Option.none
                          else
                            bif Go.Proofs.Ytpahnadbknjepaa.Ex.okLn l then
                              bif !Go.Proofs.Ytpahnadbknjepaa.Ex.hasE a l n then
                                bif Go.Proofs.Ytpahnadbknjepaa.Ex.okE a then
                                  bif Go.Proofs.Ytpahnadbknjepaa.Ex.okE a then
                                    bif Go.Proofs.Ytpahnadbknjepaa.Ex.sameE a b == Go.Proofs.Ytpahnadbknjepaa.Ex.sameE a b then Option.some (Go.Proofs.Ytpahnadbknjepaa.Ex.AV.bool Bool.true, { blks := [], c := 0 })
                                    else Option.some (Go.Proofs.Ytpahnadbknjepaa.Ex.AV.bool Bool.false, { blks := [], c := 0 })
                                  else Option.none
                                else Option.none
                              else
                                bif Go.Proofs.Ytpahnadbknjepaa.Ex.okLn l then
                                  bif Go.Proofs.Ytpahnadbknjepaa.Ex.hasE b l n then
                                    bif Go.Proofs.Ytpahnadbknjepaa.Ex.okE a then
                                      bif Go.Proofs.Ytpahnadbknjepaa.Ex.okE a then
                                        bif Go.Proofs.Ytpahnadbknjepaa.Ex.sameE a b == Go.Proofs.Ytpahnadbknjepaa.Ex.sameE a b then Option.some (Go.Proofs.Ytpahnadbknjepaa.Ex.AV.bool Bool.true, { blks := [], c := 0 })
                                        else Option.some (Go.Proofs.Ytpahnadbknjepaa.Ex.AV.bool Bool.false, { blks := [], c := 0 })
                                      else Option.none
                                    else Option.none
                                  else Option.some (Go.Proofs.Ytpahnadbknjepaa.Ex.AV.bool Bool.false, { blks := [], c := 0 })
                                else Option.none
                            else Option.none
                      else Option.none
                    else
                      bif !Go.Proofs.Ytpahnadbknjepaa.Ex.leqE a b then
                        bif Go.Proofs.Ytpahnadbknjepaa.Ex.okE a then
                          bif Go.Proofs.Ytpahnadbknjepaa.Ex.okE a then
                            bif Go.Proofs.Ytpahnadbknjepaa.Ex.sameE a b == Go.Proofs.Ytpahnadbknjepaa.Ex.sameE a b then Option.some (Go.Proofs.Ytpahnadbknjepaa.Ex.AV.bool Bool.true, { blks := [], c := 0 }) else Option.some (Go.Proofs.Ytpahnadbknjepaa.Ex.AV.bool Bool.false, { blks := [], c := 0 })
                          else Option.none
                        else Option.none
                      else
                        bif Go.Proofs.Ytpahnadbknjepaa.Ex.okLn l then
                          bif !Go.Proofs.Ytpahnadbknjepaa.Ex.hasE a l n then
                            bif Go.Proofs.Ytpahnadbknjepaa.Ex.okE a then
                              bif Go.Proofs.Ytpahnadbknjepaa.Ex.okE a then
                                bif Go.Proofs.Ytpahnadbknjepaa.Ex.sameE a b == Go.Proofs.Ytpahnadbknjepaa.Ex.sameE a b then Option.some (Go.Proofs.Ytpahnadbknjepaa.Ex.AV.bool Bool.true, { blks := [], c := 0 })
                                else Option.some (Go.Proofs.Ytpahnadbknjepaa.Ex.AV.bool Bool.false, { blks := [], c := 0 })
                              else Option.none
                            else Option.none
                          else
                            bif Go.Proofs.Ytpahnadbknjepaa.Ex.okLn l then
                              bif Go.Proofs.Ytpahnadbknjepaa.Ex.hasE b l n then
                                bif Go.Proofs.Ytpahnadbknjepaa.Ex.okE a then
                                  bif Go.Proofs.Ytpahnadbknjepaa.Ex.okE a then
                                    bif Go.Proofs.Ytpahnadbknjepaa.Ex.sameE a b == Go.Proofs.Ytpahnadbknjepaa.Ex.sameE a b then Option.some (Go.Proofs.Ytpahnadbknjepaa.Ex.AV.bool Bool.true, { blks := [], c := 0 })
                                    else Option.some (Go.Proofs.Ytpahnadbknjepaa.Ex.AV.bool Bool.false, { blks := [], c := 0 })
                                  else Option.none
                                else Option.none
                              else Option.some (Go.Proofs.Ytpahnadbknjepaa.Ex.AV.bool Bool.false, { blks := [], c := 0 })
                            else Option.none
                        else Option.none
                else
                  bif Go.Proofs.Ytpahnadbknjepaa.Ex.leqE a b then
                    bif Go.Proofs.Ytpahnadbknjepaa.Ex.okE b then
                      bif Go.Proofs.Ytpahnadbknjepaa.Ex.leqE b a then
                        bif Go.Proofs.Ytpahnadbknjepaa.Ex.okE a then
                          bif !Go.Proofs.Ytpahnadbknjepaa.Ex.sameE a b then Option.some (Go.Proofs.Ytpahnadbknjepaa.Ex.AV.bool Bool.false, { blks := [], c := 0 })
                          else
                            bif !Go.Proofs.Ytpahnadbknjepaa.Ex.leqE a b then
                              bif Go.Proofs.Ytpahnadbknjepaa.Ex.okE a then
                                bif Go.Proofs.Ytpahnadbknjepaa.Ex.okE a then
                                  bif Go.Proofs.Ytpahnadbknjepaa.Ex.sameE a b == Go.Proofs.Ytpahnadbknjepaa.Ex.sameE a b then Option.some (Go.Proofs.Ytpahnadbknjepaa.Ex.AV.bool Bool.true, { blks := [], c := 0 })
                                  else Option.some (Go.Proofs.Ytpahnadbknjepaa.Ex.AV.bool Bool.false, { blks := [], c := 0 })
                                else Option.none
                              else Option.none
                            else
                              bif Go.Proofs.Ytpahnadbknjepaa.Ex.okLn l then
                                bif !Go.Proofs.Ytpahnadbknjepaa.Ex.hasE a l n then
                                  bif Go.Proofs.Ytpahnadbknjepaa.Ex.okE a then
                                    bif Go.Proofs.Ytpahnadbknjepaa.Ex.okE a then
                                      bif Go.Proofs.Ytpahnadbknjepaa.Ex.sameE a b == Go.Proofs.Ytpahnadbknjepaa.Ex.sameE a b then Option.some (Go.Proofs.Ytpahnadbknjepaa.Ex.AV.bool Bool.true, { blks := [], c := 0 })
                                      else Option.some (Go.Proofs.Ytpahnadbknjepaa.Ex.AV.bool Bool.false, { blks := [], c := 0 })
                                    else Option.none
                                  else Option.none
                                else
                                  bif Go.Proofs.Ytpahnadbknjepaa.Ex.okLn l then
                                    bif Go.Proofs.Ytpahnadbknjepaa.Ex.hasE b l n then
                                      bif Go.Proofs.Ytpahnadbknjepaa.Ex.okE a then
                                        bif Go.Proofs.Ytpahnadbknjepaa.Ex.okE a then
                                          bif Go.Proofs.Ytpahnadbknjepaa.Ex.sameE a b == Go.Proofs.Ytpahnadbknjepaa.Ex.sameE a b then Option.some (Go.Proofs.Ytpahnadbknjepaa.Ex.AV.bool Bool.true, { blks := [], c := 0 })
                                          else Option.some (Go.Proofs.Ytpahnadbknjepaa.Ex.AV.bool Bool.false, { blks := [], c := 0 })
                                        else Option.none
                                      else Option.none
                                    else Option.some (Go.Proofs.Ytpahnadbknjepaa.Ex.AV.bool Bool.false, { blks := [], c := 0 })
                                  else Option.none
                              else Option.none
                        else Option.none
                      else
                        bif !Go.Proofs.Ytpahnadbknjepaa.Ex.leqE a b then
                          bif Go.Proofs.Ytpahnadbknjepaa.Ex.okE a then
                            bif Go.Proofs.Ytpahnadbknjepaa.Ex.okE a then
                              bif Go.Proofs.Ytpahnadbknjepaa.Ex.sameE a b == Go.Proofs.Ytpahnadbknjepaa.Ex.sameE a b then Option.some (Go.Proofs.Ytpahnadbknjepaa.Ex.AV.bool Bool.true, { blks := [], c := 0 })
                              else Option.some (Go.Proofs.Ytpahnadbknjepaa.Ex.AV.bool Bool.false, { blks := [], c := 0 })
                            else Option.none
                          else Option.none
                        else
                          bif Go.Proofs.Ytpahnadbknjepaa.Ex.okLn l then
                            bif !Go.Proofs.Ytpahnadbknjepaa.Ex.hasE a l n then
                              bif Go.Proofs.Ytpahnadbknjepaa.Ex.okE a then
                                bif Go.Proofs.Ytpahnadbknjepaa.Ex.okE a then
                                  bif Go.Proofs.Ytpahnadbknjepaa.Ex.sameE a b == Go.Proofs.Ytpahnadbknjepaa.Ex.sameE a b then Option.some (Go.Proofs.Ytpahnadbknjepaa.Ex.AV.bool Bool.true, { blks := [], c := 0 })
                                  else Option.some (Go.Proofs.Ytpahnadbknjepaa.Ex.AV.bool Bool.false, { blks := [], c := 0 })
                                else Option.none
                              else Option.none
                            else
                              bif Go.Proofs.Ytpahnadbknjepaa.Ex.okLn l then
                                bif Go.Proofs.Ytpahnadbknjepaa.Ex.hasE b l n then
                                  bif Go.Proofs.Ytpahnadbknjepaa.Ex.okE a then
                                    bif Go.Proofs.Ytpahnadbknjepaa.Ex.okE a then
                                      bif Go.Proofs.Ytpahnadbknjepaa.Ex.sameE a b == Go.Proofs.Ytpahnadbknjepaa.Ex.sameE a b then Option.some (Go.Proofs.Ytpahnadbknjepaa.Ex.AV.bool Bool.true, { blks := [], c := 0 })
                                      else Option.some (Go.Proofs.Ytpahnadbknjepaa.Ex.AV.bool Bool.false, { blks := [], c := 0 })
                                    else Option.none
                                  else Option.none
                                else Option.some (Go.Proofs.Ytpahnadbknjepaa.Ex.AV.bool Bool.false, { blks := [], c := 0 })
                              else Option.none
                          else Option.none
                    else Option.none
                  else
                    bif !Go.Proofs.Ytpahnadbknjepaa.Ex.leqE a b then
                      bif Go.Proofs.Ytpahnadbknjepaa.Ex.okE a then
                        bif Go.Proofs.Ytpahnadbknjepaa.Ex.okE a then
                          bif Go.Proofs.Ytpahnadbknjepaa.Ex.sameE a b == Go.Proofs.Ytpahnadbknjepaa.Ex.sameE a b then Option.some (Go.Proofs.Ytpahnadbknjepaa.Ex.AV.bool Bool.true, { blks := [], c := 0 }) else Option.some (Go.Proofs.Ytpahnadbknjepaa.Ex.AV.bool Bool.false, { blks := [], c := 0 })
                        else Option.none
                      else Option.none
                    else
                      bif Go.Proofs.Ytpahnadbknjepaa.Ex.okLn l then
                        bif !Go.Proofs.Ytpahnadbknjepaa.Ex.hasE a l n then
                          bif Go.Proofs.Ytpahnadbknjepaa.Ex.okE a then
                            bif Go.Proofs.Ytpahnadbknjepaa.Ex.okE a then
                              bif Go.Proofs.Ytpahnadbknjepaa.Ex.sameE a b == Go.Proofs.Ytpahnadbknjepaa.Ex.sameE a b then Option.some (Go.Proofs.Ytpahnadbknjepaa.Ex.AV.bool Bool.true, { blks := [], c := 0 })
                              else Option.some (Go.Proofs.Ytpahnadbknjepaa.Ex.AV.bool Bool.false, { blks := [], c := 0 })
                            else Option.none
                          else Option.none
                        else
                          bif Go.Proofs.Ytpahnadbknjepaa.Ex.okLn l then
                            bif Go.Proofs.Ytpahnadbknjepaa.Ex.hasE b l n then
                              bif Go.Proofs.Ytpahnadbknjepaa.Ex.okE a then
                                bif Go.Proofs.Ytpahnadbknjepaa.Ex.okE a then
                                  bif Go.Proofs.Ytpahnadbknjepaa.Ex.sameE a b == Go.Proofs.Ytpahnadbknjepaa.Ex.sameE a b then Option.some (Go.Proofs.Ytpahnadbknjepaa.Ex.AV.bool Bool.true, { blks := [], c := 0 })
                                  else Option.some (Go.Proofs.Ytpahnadbknjepaa.Ex.AV.bool Bool.false, { blks := [], c := 0 })
                                else Option.none
                              else Option.none
                            else Option.some (Go.Proofs.Ytpahnadbknjepaa.Ex.AV.bool Bool.false, { blks := [], c := 0 })
                          else Option.none
                      else Option.none
              else Option.none
            else Option.none
  else Option.none := by kernel_rfl
set_option maxRecDepth 100000
set_option linter.unusedVariables false
theorem isB_nn {x : I} (h : isB x = true) (e : empB x = true) : x = nn := by
  simp only [isB, empB, Bool.or_eq_true, Bool.and_eq_true, decide_eq_true_eq, beq_iff_eq] at h e
  rcases h with ⟨h1, h2⟩ | ⟨h1, _⟩
  · exact Prod.ext h1 h2
  · omega
theorem leq_iff {x y : I} : leqB x y = true ↔ (x.1 > x.2 ∨ (y.1 ≤ x.1 ∧ x.2 ≤ y.2)) := by simp [leqB, empB]
theorem leq_trans {x y z : I} (h : leqB x y = true) (k : leqB y z = true) : leqB x z = true := by
  rw [leq_iff] at *; omega
theorem has_le {x : I} {n : Int} : hasB x n = true ↔ x.1 ≤ n ∧ n ≤ x.2 := by simp [hasB]
theorem has_mono {x y : I} {n : Int} (h : leqB x y = true) (k : hasB x n = true) : hasB y n = true := by
  rw [leq_iff] at h; rw [has_le] at *; omega
theorem leq_anti {x y : I} (hx : isB x = true) (hy : isB y = true) (h : leqB x y = true) (k : leqB y x = true) : x = y := by
  cases ex : empB x with
  | true =>
    have e1 := isB_nn hx ex
    subst e1
    cases ey : empB y with
    | true => exact (isB_nn hy ey).symm
    | false =>
      rw [leq_iff] at k
      simp only [empB, decide_eq_false_iff_not] at ey
      simp only [nn] at k
      omega
  | false =>
    simp only [empB, decide_eq_false_iff_not] at ex
    rw [leq_iff] at h k
    exact Prod.ext (by omega) (by omega)
theorem allIx_iff {α : Type} (p : Nat → α → Bool) : ∀ (l : List α) (i : Nat), allIx p i l = true ↔ ∀ k d, l[k]? = some d → p (i + k) d = true
  | [], i => by simp [allIx]
  | d :: r, i => by
    unfold allIx
    rw [Bool.and_eq_true, allIx_iff p r (i + 1)]
    constructor
    · rintro ⟨h1, h2⟩ k x hk
      cases k with
      | zero => simp at hk; subst hk; exact h1
      | succ k => have := h2 k x (by simpa using hk); rwa [show i + 1 + k = i + (k + 1) by omega] at this
    · intro h
      refine ⟨h 0 d rfl, fun k x hk => ?_⟩
      have := h (k + 1) x (by simpa using hk)
      rwa [show i + (k + 1) = i + 1 + k by omega] at this
theorem atV_some {l : List I} {k : Nat} {d : I} (h : l[k]? = some d) : atV l (k : Nat) = d := by
  have hlt := (List.getElem?_eq_some_iff.1 h).1
  unfold atV
  rw [if_neg (by omega), Int.toNat_natCast, h]; rfl
theorem below_iff {a b : List I} (hl : a.length = b.length) : belowB a b = true ↔ ∀ (k : Nat) (x y : I), a[k]? = some x → b[k]? = some y → leqB x y = true := by
  unfold belowB
  rw [allIx_iff]
  constructor
  · intro h k x y hx hy
    have := h k x hx
    rw [Nat.zero_add, atV_some hy] at this
    exact this
  · intro h k x hx
    have hlt := (List.getElem?_eq_some_iff.1 hx).1
    have hy : b[k]? = some b[k] := List.getElem?_eq_getElem (by omega)
    rw [Nat.zero_add, atV_some hy]
    exact h k x _ hx hy
theorem below_trans {a b c : List I} (h1 : a.length = b.length) (h2 : b.length = c.length) (h : belowB a b = true) (k : belowB b c = true) : belowB a c = true := by
  rw [below_iff h1] at h
  rw [below_iff h2] at k
  rw [below_iff (h1.trans h2)]
  intro i x z hx hz
  have hlt := (List.getElem?_eq_some_iff.1 hx).1
  have hy : b[i]? = some b[i] := List.getElem?_eq_getElem (by omega)
  exact leq_trans (h i x _ hx hy) (k i _ z hy hz)
theorem below_anti {a b : List I} (hl : a.length = b.length) (ha : ∀ x ∈ a, isB x = true) (hb : ∀ x ∈ b, isB x = true) (h : belowB a b = true) (k : belowB b a = true) : a = b := by
  rw [below_iff hl] at h
  rw [below_iff hl.symm] at k
  apply List.ext_getElem? 
  intro i
  by_cases hi : i < a.length
  · have hx : a[i]? = some a[i] := List.getElem?_eq_getElem hi
    have hy : b[i]? = some b[i] := List.getElem?_eq_getElem (by omega)
    rw [hx, hy, leq_anti (ha _ (List.getElem_mem hi)) (hb _ (List.getElem_mem _)) (h i _ _ hx hy) (k i _ _ hy hx)]
  · rw [List.getElem?_eq_none (by omega), List.getElem?_eq_none (by omega)]
theorem eqRows_self (a : List I) : eqRows a a = true := by
  unfold eqRows
  rw [Bool.and_eq_true, allIx_iff]
  refine ⟨by simp, fun k d hk => ?_⟩
  rw [Nat.zero_add, hk]
  simp [eqI]
theorem and_bits (a b : Int) : BitVec.ofInt 64 (andV a b) = BitVec.ofInt 64 a &&& BitVec.ofInt 64 b := ofInt_wrap _
theorem within_bits {a b : Int} (h : withinB a b = true) : BitVec.ofInt 64 a &&& BitVec.ofInt 64 b = BitVec.ofInt 64 a ∧ IntKind.i64.wrap ((BitVec.ofInt 64 a).toNat : Int) = a := by
  have h : andV a b = a := by simpa [withinB] using h
  have e : BitVec.ofInt 64 a &&& BitVec.ofInt 64 b = BitVec.ofInt 64 a := by rw [← and_bits, h]
  refine ⟨e, ?_⟩
  have h2 : IntKind.i64.wrap ((BitVec.ofInt 64 a &&& BitVec.ofInt 64 b).toNat : Int) = a := h
  rw [e] at h2
  exact h2
theorem within_trans {a b c : Int} (h : withinB a b = true) (k : withinB b c = true) : withinB a c = true := by
  obtain ⟨h1, h2⟩ := within_bits h
  obtain ⟨k1, _⟩ := within_bits k
  have e : BitVec.ofInt 64 a &&& BitVec.ofInt 64 c = BitVec.ofInt 64 a := by
    rw [← h1, BitVec.and_assoc, k1]
  have e2 : andV a c = a := by
    show IntKind.i64.wrap ((BitVec.ofInt 64 a &&& BitVec.ofInt 64 c).toNat : Int) = a
    rw [e]; exact h2
  simp [withinB, e2]
theorem within_anti {a b : Int} (h : withinB a b = true) (k : withinB b a = true) : a = b := by
  obtain ⟨h1, h2⟩ := within_bits h
  obtain ⟨k1, k2⟩ := within_bits k
  rw [BitVec.and_comm, h1] at k1
  rw [← h2, ← k2, k1]
def goodE (f e : E) : Prop := e.2.1.length = f.2.1.length ∧ e.2.2.1.length = f.2.2.1.length ∧ e.2.2.2.1.length = f.2.2.2.1.length ∧ (∀ x ∈ e.2.1, isB x = true) ∧ (∀ x ∈ e.2.2.1, isB x = true) ∧ (∀ x ∈ e.2.2.2.1, isB x = true)
theorem fit_good {f e : E} (h : fitE f e = true) : goodE f e := by
  unfold fitE rowE at h
  simp only [Bool.and_eq_true, beq_iff_eq, List.all_eq_true, List.mem_append] at h
  obtain ⟨⟨⟨⟨_, h6⟩, h7⟩, h8⟩, h9⟩ := h
  exact ⟨h6, h7, h8, fun x hx => h9 x (.inl (.inl hx)), fun x hx => h9 x (.inl (.inr hx)), fun x hx => h9 x (.inr hx)⟩
theorem leqE_iff {a b : E} : leqE a b = true ↔ (a.1 = false ∨ (b.1 = true ∧ belowB a.2.1 b.2.1 = true ∧ belowB a.2.2.1 b.2.2.1 = true ∧ belowB a.2.2.2.1 b.2.2.2.1 = true ∧ withinB b.2.2.2.2.1 a.2.2.2.2.1 = true ∧ withinB a.2.2.2.2.2 b.2.2.2.2.2 = true)) := by
  unfold leqE; simp [and_assoc]
theorem leqE_trans {f a b c : E} (ha : goodE f a) (hb : goodE f b) (hc : goodE f c) (h : leqE a b = true) (k : leqE b c = true) : leqE a c = true := by
  rw [leqE_iff] at *
  rcases h with h | ⟨h0, h1, h2, h3, h4, h5⟩
  · exact .inl h
  · rcases k with k | ⟨k0, k1, k2, k3, k4, k5⟩
    · rw [h0] at k; cases k
    · exact .inr ⟨k0, below_trans (ha.1.trans hb.1.symm) (hb.1.trans hc.1.symm) h1 k1, below_trans (ha.2.1.trans hb.2.1.symm) (hb.2.1.trans hc.2.1.symm) h2 k2, below_trans (ha.2.2.1.trans hb.2.2.1.symm) (hb.2.2.1.trans hc.2.2.1.symm) h3 k3, within_trans k4 h4, within_trans h5 k5⟩
theorem leqE_same {f a b : E} (ha : goodE f a) (hb : goodE f b) (h : leqE a b = true) (k : leqE b a = true) : sameE a b = true := by
  rw [leqE_iff] at h k
  unfold sameE
  rcases h with h | ⟨h0, h1, h2, h3, h4, h5⟩
  · rcases k with k | ⟨k0, _⟩
    · rw [h, k]; rfl
    · rw [h] at k0; cases k0
  · rcases k with k | ⟨k0, k1, k2, k3, k4, k5⟩
    · rw [h0] at k; cases k
    · rw [h0, k0, below_anti (ha.1.trans hb.1.symm) ha.2.2.2.1 hb.2.2.2.1 h1 k1, below_anti (ha.2.1.trans hb.2.1.symm) ha.2.2.2.2.1 hb.2.2.2.2.1 h2 k2, below_anti (ha.2.2.1.trans hb.2.2.1.symm) ha.2.2.2.2.2 hb.2.2.2.2.2 h3 k3, within_anti k4 h4, within_anti h5 k5]
      simp [eqRows_self]
theorem leqE_has {f a b : E} (ha : goodE f a) (hb : goodE f b) {l : List Int} {n : Int} (h : leqE a b = true) (k : hasE a l n = true) : hasE b l n = true := by
  rw [leqE_iff] at h
  unfold hasE at k ⊢
  simp only [Bool.and_eq_true, allIx_iff, Nat.zero_add, beq_iff_eq] at k ⊢
  obtain ⟨⟨⟨⟨k1, k2⟩, k3⟩, k4⟩, k5⟩ := k
  rcases h with h | ⟨h0, h1, h2, h3, h4, h5⟩
  · rw [h] at k1; cases k1
  · have w1 : withinB b.2.2.2.2.1 n = true := within_trans h4 (by simp [withinB, k3])
    have w2 : withinB n b.2.2.2.2.2 = true := within_trans (by simp [withinB, k4]) h5
    have hl := ha.1.trans hb.1.symm
    refine ⟨⟨⟨⟨h0, k2.trans hl⟩, by simpa [withinB] using w1⟩, by simpa [withinB] using w2⟩, fun i d hd => ?_⟩
    have hlt := (List.getElem?_eq_some_iff.1 hd).1
    have hx : a.2.1[i]? = some (a.2.1[i]'(by omega)) := List.getElem?_eq_getElem _
    have hy : b.2.1[i]? = some (b.2.1[i]'(by omega)) := List.getElem?_eq_getElem _
    have := k5 i d hd
    rw [hx] at this
    rw [hy]
    rw [below_iff hl] at h1
    exact has_mono (h1 i _ _ hx hy) this
theorem ok4 (a : E) (b : E) (c : E) (l : List Int) (n : Int) (la : lenE a = true) (lb : lenE b = true) (lc : lenE c = true) : ev cx5 4 [aE a, aE b, aE c, aLi l, aN n] = outV (.bool true) := by
  have okE_of : ∀ e : E, lenE e = true → okE e = true := fun e h => by
    simp only [lenE, Bool.and_eq_true, decide_eq_true_eq] at h
    simp only [okE, okL, Bool.and_eq_true, decide_eq_true_eq]; omega
  have o0 : okLE [a, b, c] = true := by unfold okLE; simp [la, lb, lc]
  rw [raw4, o0, okE_of a la, okE_of b lb]
  cases hf : fitsB [a, b, c] with
  | false => rfl
  | true =>
  have hg : fitE a a = true ∧ fitE a b = true ∧ fitE a c = true := by
    unfold fitsB at hf; simpa using hf
  have ga := fit_good hg.1
  have gb := fit_good hg.2.1
  have gc := fit_good hg.2.2
  by_cases h1 : (l.length : Int) > 120
  · simp [h1, outV]
  by_cases h2 : n < 0
  · simp [h1, h2, outV]
  by_cases h3 : n ≥ 2147483648
  · simp [h1, h2, h3, outV]
  have ol : okLn l = true := by unfold okLn; simp; omega
  rw [ol]
  have t1 : leqE a b = true → leqE b c = true → leqE a c = true := leqE_trans ga gb gc
  have t2 : leqE a b = true → leqE b a = true → sameE a b = true := leqE_same ga gb
  have t3 : leqE a b = true → hasE a l n = true → hasE b l n = true := leqE_has ga gb
  have d1 : decide ((l.length : Int) > 120) = false := decide_eq_false h1
  have d2 : decide (n < 0) = false := decide_eq_false h2
  have d3 : decide (n ≥ 2147483648) = false := decide_eq_false h3
  rw [d1, d2, d3]
  generalize leqE a b = x1 at *
  generalize leqE b c = x2 at *
  generalize leqE a c = x3 at *
  generalize leqE b a = x4 at *
  generalize sameE a b = x5 at *
  generalize hasE a l n = x6 at *
  generalize hasE b l n = x7 at *
  clear hf hg ga gb gc la lb lc o0 okE_of
  cases x1 <;> cases x2 <;> cases x3 <;> cases x4 <;> cases x5 <;> cases x6 <;> cases x7 <;> first | rfl | (exfalso; revert t1 t2 t3; decide)
theorem ownK : ownKnob Try.prog.godebug = none := by kernel_rfl
theorem laidOut : laidOutB Try.prog = true := by kernel_rfl
theorem posOk : posB tab = true := by kernel_rfl
theorem lenE_of (e : E) (h : DOkS reachBytes tE e) : lenE e = true := by
  have h1 : e.2.1.length ≤ reachBytes := h.2.1.1
  have h2 : e.2.2.1.length ≤ reachBytes := h.2.2.1.1
  have h3 : e.2.2.2.1.length ≤ reachBytes := h.2.2.2.1.1
  have hr : reachBytes ≤ 1152921504606846976 := by decide
  simp only [lenE, Bool.and_eq_true, decide_eq_true_eq]
  exact ⟨⟨Nat.le_trans h1 hr, Nat.le_trans h2 hr⟩, Nat.le_trans h3 hr⟩
theorem law (x : DArgs [tE, tE, tE, .sl (.int .i64), .int .i64]) (hx : DOksS reachBytes [tE, tE, tE, .sl (.int .i64), .int .i64] x) : ∃ fb, ex ((evF cx5 keeps 3 4 (avs [tE, tE, tE, .sl (.int .i64), .int .i64] x)).bind (finP true)) false ⟨[], 0⟩ ⟨[], []⟩ = some (.bool true, ⟨[], 0⟩, fb) :=
  ev_ex (ok4 x.1 x.2.1 x.2.2.1 x.2.2.2.1 x.2.2.2.2.1 (lenE_of _ hx.1) (lenE_of _ hx.2.1) (lenE_of _ hx.2.2.1))
theorem lifted (os : Os) (started : os.Started) (H : Type) (enc : TypeId × Value → H) :
    ReturnsInHanded {} Try.checked os 4 .any (Rows.envOrdersSpec.pre6 enc Try.prog Try.f4 Rows.envOrdersRow.domain false) (Rows.envOrdersSpec.post enc Try.prog Try.f4 false true false false) := by
  refine returnsInHanded_of_change_sized (C := Try.checked) ownK started (by kernel_rfl) Try.func4
    (ChangeSpec.witness6 (enc := enc) (C := Try.checked) false ⟨#[], #[.agg #[.bool false, .slice none 0 0, .slice none 0 0, .slice none 0 0, .int .i64 0, .int .i64 0], .agg #[.bool false, .slice none 0 0, .slice none 0 0, .slice none 0 0, .int .i64 0, .int .i64 0], .agg #[.bool false, .slice none 0 0, .slice none 0 0, .slice none 0 0, .int .i64 0, .int .i64 0], .slice none 0 0, .int .i64 0], []⟩ 12 (by kernel_rfl) (by kernel_rfl) (by kernel_rfl) (by kernel_rfl)) ?_
  intro W base args ds gs before hval hW _ hz _
  refine law_callsS (tab := tab) (fz := true) (tys := [tE, tE, tE, .sl (.int .i64), .int .i64]) (tb := 4) tab_ok posOk laidOut (cal5 4) rfl (by kernel_rfl) rfl (by kernel_rfl) rfl (fun ds hds => ?_) (fun x hx => law x hx) hval hW hz
  match ds, hds with
  | [_, _, _, _, _], _ => rfl
theorem over : Rows.envOrdersRow.holds Try.pinned (OpenSpec.ofChange Rows.envOrdersSpec) :=
  OpenClaim.holds_of_wide 4 Try.f4 rfl rfl rfl rfl rfl rfl rfl ⟨rfl, rfl, rfl, rfl, rfl⟩ rfl rfl rfl rfl rfl (by kernel_rfl) Try.func4 (by kernel_rfl)
    (of_decide_eq_true (by kernel_rfl)) (by unfold Func.isWrapper; first | (rw [if_pos (by decide +kernel)]; kernel_rfl) | (rw [if_neg (by decide +kernel)]; exact ⟨rfl, rfl⟩))
    (fun os started H enc _ => lifted os started H enc)
end Go.Proofs.Ytpahnadbknjepaa.Ex
namespace Go.Proofs.Ytpahnadbknjepaa
theorem envOrders_holds : Rows.EnvOrdersSaid := Ex.over
#print axioms envOrders_holds
end Go.Proofs.Ytpahnadbknjepaa
