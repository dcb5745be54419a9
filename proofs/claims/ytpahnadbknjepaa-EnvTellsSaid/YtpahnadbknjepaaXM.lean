/- A part of the proofs of the laws of environments: XM. -/
import Derived.Test.YtpahnadbknjepaaXK
import Derived.Test.YtpahnadbknjepaaXL
/- Contracts, level 20. -/
namespace Go.Proofs.Ytpahnadbknjepaa.Ex
open Go.Proofs Go.Proofs.Ytpahnadbknjepaa
set_option maxRecDepth 100000
set_option linter.unusedSimpArgs false
set_option linter.unusedVariables false
def sp20 : Nat → Option (List AV → Prog AV)
  | 46 => some (specP true M46)
  | 55 => some (specP true M55)
  | 45 => some (specP true M45)
  | 37 => some (specP true M37)
  | 38 => some (specP true M38)
  | 31 => some (specP true M31)
  | 36 => some (specP true M36)
  | 43 => some (specP true M43)
  | 44 => some (specP true M44)
  | 50 => some (specP true M50)
  | 54 => some (specP true M54)
  | 20 => some (specP true M20)
  | 39 => some (specP true M39)
  | 26 => some (specP true M26)
  | 52 => some (specP true M52)
  | 51 => some (specP true M51)
  | 40 => some (specP true M40)
  | 29 => some (specP true M29)
  | 42 => some (specP true M42w)
  | 21 => some (specP true M21)
  | 24 => some (specP true M24w)
  | 9 => some (specP true M9)
  | 41 => some (cloneP 16 tI)
  | 23 => some (specP true M23)
  | 11 => some (pickS isNil1 (specP true M11N) (specP true M11L))
  | 33 => some (specP true M33)
  | 53 => some (specP true M53)
  | 34 => some (specP true M34)
  | 16 => some (specP true M16)
  | 17 => some (specP true M17)
  | 28 => some (specP true M28)
  | 35 => some (specP true M35)
  | 30 => some (specP true M30)
  | 22 => some (specP true M22)
  | 15 => some (specP true M15)
  | 8 => some (specP true M8)
  | 13 => some (specP true M13)
  | 14 => some (specP true M14)
  | 10 => some (specP true M10)
  | 12 => some (specP true M12)
  | 19 => some (specP true M19)
  | 18 => some (specP true M18)
  | _ => none
noncomputable def cx20 : Ctx := { tab := tab, spec := sp20, inl := inl, lps := fun _ _ => none, fuel := 10 }
theorem hsp20 : ∀ g p, cx20.spec g = some p → SoundA Try.prog g p := by
  intro g p h
  change sp20 g = some p at h
  unfold sp20 at h
  split at h
  · cases h; exact snd46
  · cases h; exact snd55
  · cases h; exact snd45
  · cases h; exact snd37
  · cases h; exact snd38
  · cases h; exact snd31
  · cases h; exact snd36
  · cases h; exact snd43
  · cases h; exact snd44
  · cases h; exact snd50
  · cases h; exact snd54
  · cases h; exact snd20
  · cases h; exact snd39
  · cases h; exact snd26
  · cases h; exact snd52
  · cases h; exact snd51
  · cases h; exact snd40
  · cases h; exact snd29
  · cases h; exact snd42w
  · cases h; exact snd21
  · cases h; exact snd24w
  · cases h; exact snd9
  · cases h; exact sndClone
  · cases h; exact snd23
  · cases h; exact (SoundA.pick isNil1 snd11 snd11L)
  · cases h; exact snd33
  · cases h; exact snd53
  · cases h; exact snd34w
  · cases h; exact snd16
  · cases h; exact snd17
  · cases h; exact snd28
  · cases h; exact snd35
  · cases h; exact snd30
  · cases h; exact snd22
  · cases h; exact snd15
  · cases h; exact snd8
  · cases h; exact snd13
  · cases h; exact snd14
  · cases h; exact snd10
  · cases h; exact snd12
  · cases h; exact snd19
  · cases h; exact snd18
  · cases h
theorem in20 : InlOk Try.prog cx20 := ⟨inl_ok, fun _ _ _ _ _ _ _ _ h => nomatch h⟩
theorem cal20 (g : Nat) : SoundA Try.prog g (evF cx20 keeps 3 g) := evF_sound (tabOk_of tab_ok) (cmpsOk_of tab_ok cmps_ok) mixed in20 hsp20 keeps 3 g
end Go.Proofs.Ytpahnadbknjepaa.Ex

/- What is run, level 20. -/
namespace Go.Proofs.Ytpahnadbknjepaa.Ex
open Go.Proofs Go.Proofs.Ytpahnadbknjepaa
set_option maxRecDepth 100000
theorem raw5 (a : E) (b : E) (st : List Int) (l : List Int) (n : Int) : ev cx20 5 [aE a, aE b, aLi st, aLi l, aN n] =
  bif Go.Proofs.Ytpahnadbknjepaa.Ex.okLE [a, b] then
    bif !Go.Proofs.Ytpahnadbknjepaa.Ex.fitsB [a, b] then Option.some (Go.Proofs.Ytpahnadbknjepaa.Ex.AV.bool Bool.true, { blks := [], c := 0 })
    else
      bif Decidable.decide ((↑st.length : Int) > 100) then Option.some (Go.Proofs.Ytpahnadbknjepaa.Ex.AV.bool Bool.true, { blks := [], c := 0 })
      else
        bif Decidable.decide ((↑l.length : Int) > 120) then Option.some (Go.Proofs.Ytpahnadbknjepaa.Ex.AV.bool Bool.true, { blks := [], c := 0 })
        else
          bif Decidable.decide (n < 0) then Option.some (Go.Proofs.Ytpahnadbknjepaa.Ex.AV.bool Bool.true, { blks := [], c := 0 })
          else
            bif Decidable.decide (n ≥ 2147483648) then Option.some (Go.Proofs.Ytpahnadbknjepaa.Ex.AV.bool Bool.true, { blks := [], c := 0 })
            else
              bif Go.Proofs.Ytpahnadbknjepaa.Ex.okJ [a, b] then
                bif Go.Proofs.Ytpahnadbknjepaa.Ex.okRE a && Go.Proofs.Ytpahnadbknjepaa.Ex.okRE b && Go.Proofs.Ytpahnadbknjepaa.Ex.okLen st then
                  bif Go.Proofs.Ytpahnadbknjepaa.Ex.okLn l then
                    bif Go.Proofs.Ytpahnadbknjepaa.Ex.hasE a l n then
                      bif Go.Proofs.Ytpahnadbknjepaa.Ex.okE a then
                        bif Go.Proofs.Ytpahnadbknjepaa.Ex.leqE a (Go.Proofs.Ytpahnadbknjepaa.Ex.joinL [a, b]) then
                          bif Go.Proofs.Ytpahnadbknjepaa.Ex.okE b then
                            bif Go.Proofs.Ytpahnadbknjepaa.Ex.leqE b (Go.Proofs.Ytpahnadbknjepaa.Ex.joinL [a, b]) then
                              bif Go.Proofs.Ytpahnadbknjepaa.Ex.okE a then
                                bif Go.Proofs.Ytpahnadbknjepaa.Ex.leqE a (Go.Proofs.Ytpahnadbknjepaa.Ex.widE a b st) then
                                  bif Go.Proofs.Ytpahnadbknjepaa.Ex.okE b then
                                    bif Go.Proofs.Ytpahnadbknjepaa.Ex.leqE b (Go.Proofs.Ytpahnadbknjepaa.Ex.widE a b st) then
                                      bif Go.Proofs.Ytpahnadbknjepaa.Ex.okE (Go.Proofs.Ytpahnadbknjepaa.Ex.joinL [a, b]) then
                                        bif Go.Proofs.Ytpahnadbknjepaa.Ex.leqE (Go.Proofs.Ytpahnadbknjepaa.Ex.joinL [a, b]) (Go.Proofs.Ytpahnadbknjepaa.Ex.widE a b st) then
                                          bif Go.Proofs.Ytpahnadbknjepaa.Ex.okLn l then
                                            bif Go.Proofs.Ytpahnadbknjepaa.Ex.hasE (Go.Proofs.Ytpahnadbknjepaa.Ex.joinL [a, b]) l n then
                                              bif Go.Proofs.Ytpahnadbknjepaa.Ex.okE a then
                                                bif Go.Proofs.Ytpahnadbknjepaa.Ex.leqE a a then Option.some (Go.Proofs.Ytpahnadbknjepaa.Ex.AV.bool Bool.true, { blks := [], c := 0 }) else Option.some (Go.Proofs.Ytpahnadbknjepaa.Ex.AV.bool Bool.false, { blks := [], c := 0 })
                                              else Option.none
                                            else Option.some (Go.Proofs.Ytpahnadbknjepaa.Ex.AV.bool Bool.false, { blks := [], c := 0 })
                                          else Option.none
                                        else Option.some (Go.Proofs.Ytpahnadbknjepaa.Ex.AV.bool Bool.false, { blks := [], c := 0 })
                                      else Option.none
                                    else Option.some (Go.Proofs.Ytpahnadbknjepaa.Ex.AV.bool Bool.false, { blks := [], c := 0 })
                                  else Option.none
                                else Option.some (Go.Proofs.Ytpahnadbknjepaa.Ex.AV.bool Bool.false, { blks := [], c := 0 })
                              else Option.none
                            else Option.some (Go.Proofs.Ytpahnadbknjepaa.Ex.AV.bool Bool.false, { blks := [], c := 0 })
                          else Option.none
                        else Option.some (Go.Proofs.Ytpahnadbknjepaa.Ex.AV.bool Bool.false, { blks := [], c := 0 })
                      else Option.none
                    else
                      bif Go.Proofs.Ytpahnadbknjepaa.Ex.okLn l then
                        bif Go.Proofs.Ytpahnadbknjepaa.Ex.okE a then
                          bif Go.Proofs.Ytpahnadbknjepaa.Ex.leqE a (Go.Proofs.Ytpahnadbknjepaa.Ex.joinL [a, b]) then
                            bif Go.Proofs.Ytpahnadbknjepaa.Ex.okE b then
                              bif Go.Proofs.Ytpahnadbknjepaa.Ex.leqE b (Go.Proofs.Ytpahnadbknjepaa.Ex.joinL [a, b]) then
                                bif Go.Proofs.Ytpahnadbknjepaa.Ex.okE a then
                                  bif Go.Proofs.Ytpahnadbknjepaa.Ex.leqE a (Go.Proofs.Ytpahnadbknjepaa.Ex.widE a b st) then
                                    bif Go.Proofs.Ytpahnadbknjepaa.Ex.okE b then
                                      bif Go.Proofs.Ytpahnadbknjepaa.Ex.leqE b (Go.Proofs.Ytpahnadbknjepaa.Ex.widE a b st) then
                                        bif Go.Proofs.Ytpahnadbknjepaa.Ex.okE (Go.Proofs.Ytpahnadbknjepaa.Ex.joinL [a, b]) then
                                          bif Go.Proofs.Ytpahnadbknjepaa.Ex.leqE (Go.Proofs.Ytpahnadbknjepaa.Ex.joinL [a, b]) (Go.Proofs.Ytpahnadbknjepaa.Ex.widE a b st) then
                                            bif !Go.Proofs.Ytpahnadbknjepaa.Ex.hasE b l n then
                                              bif Go.Proofs.Ytpahnadbknjepaa.Ex.okE a then
                                                bif Go.Proofs.Ytpahnadbknjepaa.Ex.leqE a a then Option.some (Go.Proofs.Ytpahnadbknjepaa.Ex.AV.bool Bool.true, { blks := [], c := 0 }) else Option.some (Go.Proofs.Ytpahnadbknjepaa.Ex.AV.bool Bool.false, { blks := [], c := 0 })
                                              else Option.none
                                            else
                                              bif Go.Proofs.Ytpahnadbknjepaa.Ex.okLn l then
                                                bif Go.Proofs.Ytpahnadbknjepaa.Ex.hasE (Go.Proofs.Ytpahnadbknjepaa.Ex.joinL [a, b]) l n then
                                                  bif Go.Proofs.Ytpahnadbknjepaa.Ex.okE a then
                                                    bif Go.Proofs.Ytpahnadbknjepaa.Ex.leqE a a then Option.some (Go.Proofs.Ytpahnadbknjepaa.Ex.AV.bool Bool.true, { blks := [], c := 0 })
                                                    else Option.some (Go.Proofs.Ytpahnadbknjepaa.Ex.AV.bool Bool.false, { blks := [], c := 0 })
                                                  else Option.none
                                                else Option.some (Go.Proofs.Ytpahnadbknjepaa.Ex.AV.bool Bool.false, { blks := [], c := 0 })
                                              else Option.none
                                          else Option.some (Go.Proofs.Ytpahnadbknjepaa.Ex.AV.bool Bool.false, { blks := [], c := 0 })
                                        else Option.none
                                      else Option.some (Go.Proofs.Ytpahnadbknjepaa.Ex.AV.bool Bool.false, { blks := [], c := 0 })
                                    else Option.none
                                  else Option.some (Go.Proofs.Ytpahnadbknjepaa.Ex.AV.bool Bool.false, { blks := [], c := 0 })
                                else Option.none
                              else Option.some (Go.Proofs.Ytpahnadbknjepaa.Ex.AV.bool Bool.false, { blks := [], c := 0 })
                            else Option.none
                          else Option.some (Go.Proofs.Ytpahnadbknjepaa.Ex.AV.bool Bool.false, { blks := [], c := 0 })
                        else Option.none
                      else Option.none
                  else Option.none
                else Option.none
              else Option.none
  else Option.none := by kernel_rfl
theorem raw6 (a : E) (b : E) (st : List Int) (l : List Int) (n : Int) : ev cx20 6 [aE a, aE b, aLi st, aLi l, aN n] =
  bif Go.Proofs.Ytpahnadbknjepaa.Ex.okLE [a, b] then
    bif !Go.Proofs.Ytpahnadbknjepaa.Ex.fitsB [a, b] then Option.some (Go.Proofs.Ytpahnadbknjepaa.Ex.AV.bool Bool.true, { blks := [], c := 0 })
    else
      bif Decidable.decide ((↑st.length : Int) > 100) then Option.some (Go.Proofs.Ytpahnadbknjepaa.Ex.AV.bool Bool.true, { blks := [], c := 0 })
      else
        bif Decidable.decide ((↑l.length : Int) > 120) then Option.some (Go.Proofs.Ytpahnadbknjepaa.Ex.AV.bool Bool.true, { blks := [], c := 0 })
        else
          bif Decidable.decide (n < 0) then Option.some (Go.Proofs.Ytpahnadbknjepaa.Ex.AV.bool Bool.true, { blks := [], c := 0 })
          else
            bif Decidable.decide (n ≥ 2147483648) then Option.some (Go.Proofs.Ytpahnadbknjepaa.Ex.AV.bool Bool.true, { blks := [], c := 0 })
            else
              bif Go.Proofs.Ytpahnadbknjepaa.Ex.okJ [a, b] then
                bif Go.Proofs.Ytpahnadbknjepaa.Ex.okRE a then
                  bif Go.Proofs.Ytpahnadbknjepaa.Ex.okE (Go.Proofs.Ytpahnadbknjepaa.Ex.joinL [a, b]) then
                    bif Go.Proofs.Ytpahnadbknjepaa.Ex.sameE (Go.Proofs.Ytpahnadbknjepaa.Ex.joinL [a, b]) (Go.Proofs.Ytpahnadbknjepaa.Ex.rjoinE a b) then
                      bif Go.Proofs.Ytpahnadbknjepaa.Ex.okRE a && Go.Proofs.Ytpahnadbknjepaa.Ex.okRE b && Go.Proofs.Ytpahnadbknjepaa.Ex.okLen st then
                        bif Go.Proofs.Ytpahnadbknjepaa.Ex.okRE a && Go.Proofs.Ytpahnadbknjepaa.Ex.okRE b && Go.Proofs.Ytpahnadbknjepaa.Ex.okLen st then
                          bif Go.Proofs.Ytpahnadbknjepaa.Ex.okE (Go.Proofs.Ytpahnadbknjepaa.Ex.widE a b st) then
                            bif Go.Proofs.Ytpahnadbknjepaa.Ex.sameE (Go.Proofs.Ytpahnadbknjepaa.Ex.widE a b st) (Go.Proofs.Ytpahnadbknjepaa.Ex.rwidE a b st) then
                              bif Go.Proofs.Ytpahnadbknjepaa.Ex.okE a then
                                bif Go.Proofs.Ytpahnadbknjepaa.Ex.okE a then
                                  bif Go.Proofs.Ytpahnadbknjepaa.Ex.leqE a b == Go.Proofs.Ytpahnadbknjepaa.Ex.rleqE a b then
                                    bif Go.Proofs.Ytpahnadbknjepaa.Ex.okE a then
                                      bif Go.Proofs.Ytpahnadbknjepaa.Ex.okE a then
                                        bif Go.Proofs.Ytpahnadbknjepaa.Ex.sameE a b == Go.Proofs.Ytpahnadbknjepaa.Ex.sameE a b then
                                          bif Go.Proofs.Ytpahnadbknjepaa.Ex.okLn l then
                                            bif Go.Proofs.Ytpahnadbknjepaa.Ex.okLn l then
                                              bif Go.Proofs.Ytpahnadbknjepaa.Ex.hasE a l n == Go.Proofs.Ytpahnadbknjepaa.Ex.rhasE a l n then Option.some (Go.Proofs.Ytpahnadbknjepaa.Ex.AV.bool Bool.true, { blks := [], c := 0 })
                                              else Option.some (Go.Proofs.Ytpahnadbknjepaa.Ex.AV.bool Bool.false, { blks := [], c := 0 })
                                            else Option.none
                                          else Option.none
                                        else Option.some (Go.Proofs.Ytpahnadbknjepaa.Ex.AV.bool Bool.false, { blks := [], c := 0 })
                                      else Option.none
                                    else Option.none
                                  else Option.some (Go.Proofs.Ytpahnadbknjepaa.Ex.AV.bool Bool.false, { blks := [], c := 0 })
                                else Option.none
                              else Option.none
                            else Option.some (Go.Proofs.Ytpahnadbknjepaa.Ex.AV.bool Bool.false, { blks := [], c := 0 })
                          else Option.none
                        else Option.none
                      else Option.none
                    else Option.some (Go.Proofs.Ytpahnadbknjepaa.Ex.AV.bool Bool.false, { blks := [], c := 0 })
                  else Option.none
                else Option.none
              else Option.none
  else Option.none := by kernel_rfl
end Go.Proofs.Ytpahnadbknjepaa.Ex

/- EnvAbove and EnvTells, in plain Lean. -/
namespace Go.Proofs.Ytpahnadbknjepaa.Ex
open Go.Proofs Go.Proofs.Ytpahnadbknjepaa
set_option maxRecDepth 100000
set_option linter.unusedVariables false
set_option linter.unusedSimpArgs false
structure Two (a b : E) (st : List Int) where
  ga : goodE a a
  gb : goodE a b
  ba : bitsOk a
  bb : bitsOk b
  la : a.2.1.length ≤ 120 ∧ a.2.2.1.length ≤ 120 ∧ a.2.2.2.1.length ≤ 120
  lb : b.2.1.length ≤ 120 ∧ b.2.2.1.length ≤ 120 ∧ b.2.2.2.1.length ≤ 120
theorem two_of {a b : E} {st : List Int} (h : fitsB [a, b] = true) : Two a b st := by
  have hg : fitE a a = true ∧ fitE a b = true := by unfold fitsB at h; simpa using h
  exact ⟨fit_good hg.1, fit_good hg.2, fit_bits hg.1, fit_bits hg.2, good_lens hg.1, good_lens hg.2⟩
section
variable {a b : E} {st : List Int} (t : Two a b st)
include t
theorem Two.jgood : goodE a (joinL [a, b]) ∨ joinL [a, b] = zz := by
  rw [join2]
  cases ha : a.1 <;> cases hb : b.1
  · exact .inr rfl
  · exact .inl t.gb
  · exact .inl t.ga
  · exact .inl (merge_good t.ga t.gb)
theorem Two.wgood : goodE a (widE a b st) ∨ widE a b st = zz := by
  rw [wid2]
  cases ha : a.1 <;> cases hb : b.1
  · exact .inr rfl
  · exact .inl t.gb
  · exact .inl t.ga
  · exact .inl (wmerge_good st t.ga t.gb)
theorem Two.ok_of {e : E} (h : goodE a e ∨ e = zz) : okE e = true ∧ okRE e = true := by
  have hl := t.la
  rcases h with ⟨h1, h2, h3, _⟩ | rfl
  · have : e.2.1.length ≤ 120 ∧ e.2.2.1.length ≤ 120 ∧ e.2.2.2.1.length ≤ 120 := by omega
    exact ⟨okE_of this, okRE_of this⟩
  · exact ⟨okE_of (by decide), okRE_of (by decide)⟩
theorem Two.up1 : leqE a (joinL [a, b]) = true := by
  rw [join2]
  cases ha : a.1 <;> cases hb : b.1
  · exact off_leq ha
  · exact off_leq ha
  · exact leqE_self t.ba
  · exact merge_up1 t.ba
theorem Two.up2 : leqE b (joinL [a, b]) = true := by
  rw [join2]
  cases ha : a.1 <;> cases hb : b.1
  · exact off_leq hb
  · exact leqE_self t.bb
  · exact off_leq hb
  · exact merge_up2 t.ga t.gb t.bb
theorem Two.up3 : leqE (joinL [a, b]) (widE a b st) = true := by
  rw [join2, wid2]
  cases ha : a.1 <;> cases hb : b.1
  · exact off_leq rfl
  · exact leqE_self t.bb
  · exact leqE_self t.ba
  · exact merge_wmerge st t.ga t.gb
theorem Two.wid1 : leqE a (widE a b st) = true := by
  rw [wid2]
  cases ha : a.1 <;> cases hb : b.1
  · exact off_leq ha
  · exact off_leq ha
  · exact leqE_self t.ba
  · exact leqE_trans t.ga (merge_good t.ga t.gb) (wmerge_good st t.ga t.gb) (merge_up1 t.ba) (merge_wmerge st t.ga t.gb)
theorem Two.wid2' : leqE b (widE a b st) = true := by
  rw [wid2]
  cases ha : a.1 <;> cases hb : b.1
  · exact off_leq hb
  · exact leqE_self t.bb
  · exact off_leq hb
  · exact leqE_trans t.gb (merge_good t.ga t.gb) (wmerge_good st t.ga t.gb) (merge_up2 t.ga t.gb t.bb) (merge_wmerge st t.ga t.gb)
theorem Two.has1 {l : List Int} {n : Int} (h : hasE a l n = true) : hasE (joinL [a, b]) l n = true := by
  rw [join2]
  cases ha : a.1 with
  | false => unfold hasE at h; rw [ha] at h; cases h
  | true =>
    cases hb : b.1
    · exact h
    · exact leqE_has t.ga (merge_good t.ga t.gb) (merge_up1 t.ba) h
theorem Two.has2 {l : List Int} {n : Int} (h : hasE b l n = true) : hasE (joinL [a, b]) l n = true := by
  rw [join2]
  cases hb : b.1 with
  | false => unfold hasE at h; rw [hb] at h; cases h
  | true =>
    cases ha : a.1
    · exact h
    · exact leqE_has t.gb (merge_good t.ga t.gb) (merge_up2 t.ga t.gb t.bb) h
end
theorem ok5' (a b : E) (st l : List Int) (n : Int) (la : lenE a = true) (lb : lenE b = true) : ev cx20 5 [aE a, aE b, aLi st, aLi l, aN n] = outV (.bool true) := by
  have o0 : okLE [a, b] = true := by unfold okLE; simp [la, lb]
  rw [raw5, o0]
  cases hf : fitsB [a, b] with
  | false => rfl
  | true =>
  have t : Two a b st := two_of hf
  by_cases h0 : (st.length : Int) > 100
  · simp [h0, outV]
  by_cases h1 : (l.length : Int) > 120
  · simp [h0, h1, outV]
  by_cases h2 : n < 0
  · simp [h0, h1, h2, outV]
  by_cases h3 : n ≥ 2147483648
  · simp [h0, h1, h2, h3, outV]
  have ol : okLn l = true := by unfold okLn; simp; omega
  have os : okLen st = true := by unfold okLen; simp; omega
  have oj : okJ [a, b] = true := by
    unfold okJ allL11; simp only [List.all_cons, List.all_nil, okRE_of t.la, okRE_of t.lb, Bool.and_true, List.length_cons, List.length_nil]; exact decide_eq_true (by omega)
  rw [oj, ol, os, okRE_of t.la, okRE_of t.lb, okE_of t.la, okE_of t.lb, (t.ok_of t.jgood).1, t.up1, t.up2, t.up3, t.wid1, t.wid2', leqE_self t.ba,
    decide_eq_false h0, decide_eq_false h1, decide_eq_false h2, decide_eq_false h3]
  cases k1 : hasE a l n with
  | true => rw [t.has1 k1]; rfl
  | false =>
    cases k2 : hasE b l n with
    | false => rfl
    | true => rw [t.has2 k2]; rfl
theorem sameE_self (a : E) : sameE a a = true := by
  unfold sameE
  rw [eqRows_self, eqRows_self, eqRows_self]
  cases a.1 <;> simp
theorem joinR_r {a b : List I} (hl : a.length = b.length) (hb : allB b) : joinR a b = rjoinR a b := by
  rw [joinR_eq, rjoinR_eq]
  apply List.ext_getElem?
  intro k
  rw [get_mapIx, get_mapIx]
  cases hd : a[k]? with
  | none => rfl
  | some d => simp only [Option.map_some]; rw [join_eq (at_is hb (by have := (List.getElem?_eq_some_iff.1 hd).1; omega))]
theorem widR_r {a b : List I} (st : List Int) (hl : a.length = b.length) (ha : allB a) (hb : allB b) : widR a b st = rwidR a b st := by
  rw [widR_eq, rwidR_eq]
  apply List.ext_getElem?
  intro k
  rw [get_mapIx, get_mapIx]
  cases hd : a[k]? with
  | none => rfl
  | some d => simp only [Option.map_some]; rw [wid_eq (ha d (List.mem_of_getElem? hd)) (at_is hb (by have := (List.getElem?_eq_some_iff.1 hd).1; omega))]
theorem merge_r {f a b : E} (ga : goodE f a) (gb : goodE f b) : mergeE a b = rmergeE a b := by
  unfold mergeE rmergeE
  rw [joinR_r (ga.1.trans gb.1.symm) gb.2.2.2.1, joinR_r (ga.2.1.trans gb.2.1.symm) gb.2.2.2.2.1, joinR_r (ga.2.2.1.trans gb.2.2.1.symm) gb.2.2.2.2.2]
theorem wmerge_r {f a b : E} (st : List Int) (ga : goodE f a) (gb : goodE f b) : wmergeE a b st = rwmergeE a b st := by
  unfold wmergeE rwmergeE
  rw [widR_r st (ga.1.trans gb.1.symm) ga.2.2.2.1 gb.2.2.2.1, widR_r st (ga.2.1.trans gb.2.1.symm) ga.2.2.2.2.1 gb.2.2.2.2.1, widR_r st (ga.2.2.1.trans gb.2.2.1.symm) ga.2.2.2.2.2 gb.2.2.2.2.2]
theorem and_not_iff (x y : BitVec 64) : x &&& ~~~y = 0#64 ↔ x &&& y = x := by
  constructor
  · intro h
    apply BitVec.eq_of_getLsbD_eq
    intro i hi
    have := congrArg (fun z => z.getLsbD i) h
    simp only [BitVec.getLsbD_and, BitVec.getLsbD_not, BitVec.getLsbD_zero, hi, decide_true, Bool.true_and] at this ⊢
    cases hx : x.getLsbD i <;> cases hy : y.getLsbD i <;> simp_all
  · intro h
    apply BitVec.eq_of_getLsbD_eq
    intro i hi
    have := congrArg (fun z => z.getLsbD i) h
    simp only [BitVec.getLsbD_and, BitVec.getLsbD_not, BitVec.getLsbD_zero, hi, decide_true, Bool.true_and] at this ⊢
    cases hx : x.getLsbD i <;> cases hy : y.getLsbD i <;> simp_all
theorem andN_bits (a b : Int) : BitVec.ofInt 64 (andNV a b) = BitVec.ofInt 64 a &&& ~~~(BitVec.ofInt 64 b) := ofInt_wrap _
theorem within_r {x : Int} (y : Int) (h : IntKind.i64.wrap ((BitVec.ofInt 64 x).toNat : Int) = x) : (andV x y == x) = (andNV x y == 0) := by
  rw [Bool.eq_iff_iff, beq_iff_eq, beq_iff_eq]
  constructor
  · intro k
    have e : BitVec.ofInt 64 x &&& BitVec.ofInt 64 y = BitVec.ofInt 64 x := by rw [← and_bits, k]
    have e2 := (and_not_iff _ _).2 e
    show IntKind.i64.wrap ((BitVec.ofInt 64 x &&& ~~~(BitVec.ofInt 64 y)).toNat : Int) = 0
    rw [e2]; rfl
  · intro k
    have e2 : BitVec.ofInt 64 x &&& ~~~(BitVec.ofInt 64 y) = 0#64 := by rw [← andN_bits, k]; rfl
    have e := (and_not_iff _ _).1 e2
    show IntKind.i64.wrap ((BitVec.ofInt 64 x &&& BitVec.ofInt 64 y).toNat : Int) = x
    rw [e]; exact h
theorem leqE_r {a b : E} (ha : bitsOk a) (hb : bitsOk b) : leqE a b = rleqE a b := by
  unfold leqE rleqE withinB
  rw [within_r _ hb.1, within_r _ ha.2]
theorem hasE_r {a : E} (l : List Int) {n : Int} (ha : bitsOk a) (hn : IntKind.i64.wrap ((BitVec.ofInt 64 n).toNat : Int) = n) : hasE a l n = rhasE a l n := by
  unfold hasE rhasE
  rw [within_r _ ha.1, within_r _ hn]
  generalize allIx _ 0 l = p
  generalize (andNV a.2.2.2.2.1 n == 0) = q
  generalize (andNV n a.2.2.2.2.2 == 0) = r
  generalize (l.length == a.2.1.length) = s
  cases a.1 <;> cases p <;> cases q <;> cases r <;> cases s <;> rfl
theorem Two.same1 {a b : E} {st : List Int} (t : Two a b st) : sameE (joinL [a, b]) (rjoinE a b) = true := by
  rw [join2]
  unfold rjoinE
  cases ha : a.1 <;> cases hb : b.1
  · rfl
  · exact sameE_self _
  · exact sameE_self _
  · simp only [Bool.not_true, cond_false]; rw [merge_r t.ga t.gb]; exact sameE_self _
theorem Two.same2 {a b : E} {st : List Int} (t : Two a b st) : sameE (widE a b st) (rwidE a b st) = true := by
  rw [wid2]
  unfold rwidE rjoinE
  cases ha : a.1 <;> cases hb : b.1
  · rfl
  · exact sameE_self _
  · exact sameE_self _
  · simp only [Bool.not_true, cond_false, Bool.or_self]; rw [wmerge_r st t.ga t.gb]; exact sameE_self _
theorem ok6' (a b : E) (st l : List Int) (n : Int) (la : lenE a = true) (lb : lenE b = true) : ev cx20 6 [aE a, aE b, aLi st, aLi l, aN n] = outV (.bool true) := by
  have o0 : okLE [a, b] = true := by unfold okLE; simp [la, lb]
  rw [raw6, o0]
  cases hf : fitsB [a, b] with
  | false => rfl
  | true =>
  have t : Two a b st := two_of hf
  by_cases h0 : (st.length : Int) > 100
  · simp [h0, outV]
  by_cases h1 : (l.length : Int) > 120
  · simp [h0, h1, outV]
  by_cases h2 : n < 0
  · simp [h0, h1, h2, outV]
  by_cases h3 : n ≥ 2147483648
  · simp [h0, h1, h2, h3, outV]
  have ol : okLn l = true := by unfold okLn; simp; omega
  have os : okLen st = true := by unfold okLen; simp; omega
  have oj : okJ [a, b] = true := by
    unfold okJ allL11; simp only [List.all_cons, List.all_nil, okRE_of t.la, okRE_of t.lb, Bool.and_true, List.length_cons, List.length_nil]; exact decide_eq_true (by omega)
  have hn : IntKind.i64.wrap ((BitVec.ofInt 64 n).toNat : Int) = n := wrap_ofInt (by omega) (by omega)
  rw [oj, ol, os, okRE_of t.la, okRE_of t.lb, okE_of t.la, (t.ok_of t.jgood).1, (t.ok_of t.wgood).1, t.same1, t.same2, leqE_r t.ba t.bb, hasE_r l t.ba hn,
    decide_eq_false h0, decide_eq_false h1, decide_eq_false h2, decide_eq_false h3]
  simp only [beq_self_eq_true]; rfl
end Go.Proofs.Ytpahnadbknjepaa.Ex

