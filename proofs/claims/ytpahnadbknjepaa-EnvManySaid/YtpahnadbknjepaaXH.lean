/- A part of the proofs of the laws of environments: XH. -/
import Derived.Test.YtpahnadbknjepaaXG
/- Contracts, level 3. -/
namespace Go.Proofs.Ytpahnadbknjepaa.Ex
open Go.Proofs Go.Proofs.Ytpahnadbknjepaa
set_option maxRecDepth 100000
set_option linter.unusedSimpArgs false
set_option linter.unusedVariables false
def okE (a : E) : Bool := okL a.2.1 && okL a.2.2.1 && okL a.2.2.2.1
def withinB (a b : Int) : Bool := andV a b == a
def leqE (a b : E) : Bool := !a.1 || (b.1 && belowB a.2.1 b.2.1 && belowB a.2.2.1 b.2.2.1 && belowB a.2.2.2.1 b.2.2.2.1 && withinB b.2.2.2.2.1 a.2.2.2.2.1 && withinB a.2.2.2.2.2 b.2.2.2.2.2)
def sameE (a b : E) : Bool := bif !a.1 || !b.1 then a.1 == b.1 else eqRows a.2.1 b.2.1 && eqRows a.2.2.1 b.2.2.1 && eqRows a.2.2.2.1 b.2.2.2.1 && a.2.2.2.2.1 == b.2.2.2.2.1 && a.2.2.2.2.2 == b.2.2.2.2.2
def sp3 : Nat → Option (List AV → Prog AV)
  | 46 => some (specP true M46)
  | 55 => some (specP true M55)
  | 45 => some (specP true M45)
  | 37 => some (specP true M37)
  | 38 => some (specP true M38)
  | 31 => some (specP true M31)
  | 36 => some (specP true M36)
  | 43 => some (specP true M43)
  | 44 => some (specP true M44)
  | 50 => some (specP true M50)
  | 54 => some (specP true M54)
  | 20 => some (specP true M20)
  | 39 => some (specP true M39)
  | 26 => some (specP true M26)
  | 52 => some (specP true M52)
  | 51 => some (specP true M51)
  | 40 => some (specP true M40)
  | 29 => some (specP true M29)
  | 28 => some (specP true M28)
  | 35 => some (specP true M35)
  | 30 => some (specP true M30)
  | 22 => some (specP true M22)
  | 15 => some (specP true M15)
  | 8 => some (specP true M8)
  | _ => none
noncomputable def cx3 : Ctx := { tab := tab, spec := sp3, inl := inl, lps := fun _ _ => none, fuel := 10 }
theorem hsp3 : ∀ g p, cx3.spec g = some p → SoundA Try.prog g p := by
  intro g p h
  change sp3 g = some p at h
  unfold sp3 at h
  split at h
  · cases h; exact snd46
  · cases h; exact snd55
  · cases h; exact snd45
  · cases h; exact snd37
  · cases h; exact snd38
  · cases h; exact snd31
  · cases h; exact snd36
  · cases h; exact snd43
  · cases h; exact snd44
  · cases h; exact snd50
  · cases h; exact snd54
  · cases h; exact snd20
  · cases h; exact snd39
  · cases h; exact snd26
  · cases h; exact snd52
  · cases h; exact snd51
  · cases h; exact snd40
  · cases h; exact snd29
  · cases h; exact snd28
  · cases h; exact snd35
  · cases h; exact snd30
  · cases h; exact snd22
  · cases h; exact snd15
  · cases h; exact snd8
  · cases h
theorem in3 : InlOk Try.prog cx3 := ⟨inl_ok, fun _ _ _ _ _ _ _ _ h => nomatch h⟩
theorem cal3 (g : Nat) : SoundA Try.prog g (evF cx3 keeps 3 g) := evF_sound (tabOk_of tab_ok) (cmpsOk_of tab_ok cmps_ok) mixed in3 hsp3 keeps 3 g
end Go.Proofs.Ytpahnadbknjepaa.Ex

/- What is run, level 3. -/
namespace Go.Proofs.Ytpahnadbknjepaa.Ex
open Go.Proofs Go.Proofs.Ytpahnadbknjepaa
set_option maxRecDepth 100000
theorem raw13 (a : E) (b : E) : ev cx3 13 [aE a, aE b] =
  bif !a.fst then Option.some (Go.Proofs.Ytpahnadbknjepaa.Ex.AV.bool Bool.true, { blks := [], c := 0 })
  else
    bif b.fst then
      bif Go.Proofs.Ytpahnadbknjepaa.Ex.okL a.snd.fst then
        bif Go.Proofs.Ytpahnadbknjepaa.Ex.belowB a.snd.fst b.snd.fst then
          bif Go.Proofs.Ytpahnadbknjepaa.Ex.okL a.snd.snd.fst then
            bif Go.Proofs.Ytpahnadbknjepaa.Ex.belowB a.snd.snd.fst b.snd.snd.fst then
              bif Go.Proofs.Ytpahnadbknjepaa.Ex.okL a.snd.snd.snd.fst then
                bif Go.Proofs.Ytpahnadbknjepaa.Ex.belowB a.snd.snd.snd.fst b.snd.snd.snd.fst then
                  bif Go.Proofs.Ytpahnadbknjepaa.Ex.andV b.snd.snd.snd.snd.fst a.snd.snd.snd.snd.fst == b.snd.snd.snd.snd.fst then
                    Option.some (Go.Proofs.Ytpahnadbknjepaa.Ex.AV.bool (Go.Proofs.Ytpahnadbknjepaa.Ex.andV a.snd.snd.snd.snd.snd b.snd.snd.snd.snd.snd == a.snd.snd.snd.snd.snd), { blks := [], c := 0 })
                  else Option.some (Go.Proofs.Ytpahnadbknjepaa.Ex.AV.bool Bool.false, { blks := [], c := 0 })
                else Option.some (Go.Proofs.Ytpahnadbknjepaa.Ex.AV.bool Bool.false, { blks := [], c := 0 })
              else Option.none
            else Option.some (Go.Proofs.Ytpahnadbknjepaa.Ex.AV.bool Bool.false, { blks := [], c := 0 })
          else Option.none
        else Option.some (Go.Proofs.Ytpahnadbknjepaa.Ex.AV.bool Bool.false, { blks := [], c := 0 })
      else Option.none
    else Option.some (Go.Proofs.Ytpahnadbknjepaa.Ex.AV.bool Bool.false, { blks := [], c := 0 }) := by kernel_rfl
theorem raw14 (a : E) (b : E) : ev cx3 14 [aE a, aE b] =
  bif !a.fst then Option.some (Go.Proofs.Ytpahnadbknjepaa.Ex.AV.bool (a.fst == b.fst), { blks := [], c := 0 })
  else
    bif !b.fst then Option.some (Go.Proofs.Ytpahnadbknjepaa.Ex.AV.bool (a.fst == b.fst), { blks := [], c := 0 })
    else
      bif Go.Proofs.Ytpahnadbknjepaa.Ex.okL a.snd.fst then
        bif Go.Proofs.Ytpahnadbknjepaa.Ex.eqRows a.snd.fst b.snd.fst then
          bif Go.Proofs.Ytpahnadbknjepaa.Ex.okL a.snd.snd.fst then
            bif Go.Proofs.Ytpahnadbknjepaa.Ex.eqRows a.snd.snd.fst b.snd.snd.fst then
              bif Go.Proofs.Ytpahnadbknjepaa.Ex.okL a.snd.snd.snd.fst then
                bif Go.Proofs.Ytpahnadbknjepaa.Ex.eqRows a.snd.snd.snd.fst b.snd.snd.snd.fst then
                  bif a.snd.snd.snd.snd.fst == b.snd.snd.snd.snd.fst then Option.some (Go.Proofs.Ytpahnadbknjepaa.Ex.AV.bool (a.snd.snd.snd.snd.snd == b.snd.snd.snd.snd.snd), { blks := [], c := 0 })
                  else Option.some (Go.Proofs.Ytpahnadbknjepaa.Ex.AV.bool Bool.false, { blks := [], c := 0 })
                else Option.some (Go.Proofs.Ytpahnadbknjepaa.Ex.AV.bool Bool.false, { blks := [], c := 0 })
              else Option.none
            else Option.some (Go.Proofs.Ytpahnadbknjepaa.Ex.AV.bool Bool.false, { blks := [], c := 0 })
          else Option.none
        else Option.some (Go.Proofs.Ytpahnadbknjepaa.Ex.AV.bool Bool.false, { blks := [], c := 0 })
      else Option.none := by kernel_rfl
theorem raw10 (a : E) (b : E) : ev cx3 10 [aE a, aE b] =
  bif !a.fst then Option.some (Go.Proofs.Ytpahnadbknjepaa.Ex.AV.bool (a.fst == b.fst), { blks := [], c := 0 })
  else
    bif !b.fst then Option.some (Go.Proofs.Ytpahnadbknjepaa.Ex.AV.bool (a.fst == b.fst), { blks := [], c := 0 })
    else
      bif Go.Proofs.Ytpahnadbknjepaa.Ex.okL a.snd.fst then
        bif Go.Proofs.Ytpahnadbknjepaa.Ex.eqRows a.snd.fst b.snd.fst then
          bif Go.Proofs.Ytpahnadbknjepaa.Ex.okL a.snd.snd.fst then
            bif Go.Proofs.Ytpahnadbknjepaa.Ex.eqRows a.snd.snd.fst b.snd.snd.fst then
              bif Go.Proofs.Ytpahnadbknjepaa.Ex.okL a.snd.snd.snd.fst then
                bif Go.Proofs.Ytpahnadbknjepaa.Ex.eqRows a.snd.snd.snd.fst b.snd.snd.snd.fst then
                  bif a.snd.snd.snd.snd.fst == b.snd.snd.snd.snd.fst then Option.some (Go.Proofs.Ytpahnadbknjepaa.Ex.AV.bool (a.snd.snd.snd.snd.snd == b.snd.snd.snd.snd.snd), { blks := [], c := 0 })
                  else Option.some (Go.Proofs.Ytpahnadbknjepaa.Ex.AV.bool Bool.false, { blks := [], c := 0 })
                else Option.some (Go.Proofs.Ytpahnadbknjepaa.Ex.AV.bool Bool.false, { blks := [], c := 0 })
              else Option.none
            else Option.some (Go.Proofs.Ytpahnadbknjepaa.Ex.AV.bool Bool.false, { blks := [], c := 0 })
          else Option.none
        else Option.some (Go.Proofs.Ytpahnadbknjepaa.Ex.AV.bool Bool.false, { blks := [], c := 0 })
      else Option.none := by kernel_rfl
theorem raw11N  : ev cx3 11 [.nil] =
  Option.some (Go.Proofs.Ytpahnadbknjepaa.Ex.AV.agg [Go.Proofs.Ytpahnadbknjepaa.Ex.AV.bool Bool.false, Go.Proofs.Ytpahnadbknjepaa.Ex.AV.nil, Go.Proofs.Ytpahnadbknjepaa.Ex.AV.nil, Go.Proofs.Ytpahnadbknjepaa.Ex.AV.nil, Go.Proofs.Ytpahnadbknjepaa.Ex.AV.int Go.IntKind.i64 0, Go.Proofs.Ytpahnadbknjepaa.Ex.AV.int Go.IntKind.i64 0], { blks := [], c := 0 }) := by kernel_rfl
end Go.Proofs.Ytpahnadbknjepaa.Ex

/- Contracts, level 3. -/
namespace Go.Proofs.Ytpahnadbknjepaa.Ex
open Go.Proofs Go.Proofs.Ytpahnadbknjepaa
set_option maxRecDepth 100000
set_option linter.unusedSimpArgs false
set_option linter.unusedVariables false
theorem ok13 (a : E) (b : E) (hp : okE a = true) : ev cx3 13 [aE a, aE b] = outV (.bool (leqE a b)) := by
  rw [raw13]
  simp only [okE, Bool.and_eq_true] at hp; obtain ⟨⟨p1, p2⟩, p3⟩ := hp; rw [p1, p2, p3]; simp only [cond_true]
  unfold leqE withinB
  cases a.1 <;> cases b.1 <;> cases belowB a.2.1 b.2.1 <;> cases belowB a.2.2.1 b.2.2.1 <;> cases belowB a.2.2.2.1 b.2.2.2.1 <;> cases (andV b.2.2.2.2.1 a.2.2.2.2.1 == b.2.2.2.2.1) <;> rfl
theorem ok14 (a : E) (b : E) (hp : okE a = true) : ev cx3 14 [aE a, aE b] = outV (.bool (sameE a b)) := by
  rw [raw14]
  simp only [okE, Bool.and_eq_true] at hp; obtain ⟨⟨p1, p2⟩, p3⟩ := hp; rw [p1, p2, p3]; simp only [cond_true]
  unfold sameE
  cases a.1 <;> cases b.1 <;> cases eqRows a.2.1 b.2.1 <;> cases eqRows a.2.2.1 b.2.2.1 <;> cases eqRows a.2.2.2.1 b.2.2.2.1 <;> cases (a.2.2.2.2.1 == b.2.2.2.2.1) <;> rfl
theorem ok10 (a : E) (b : E) (hp : okE a = true) : ev cx3 10 [aE a, aE b] = outV (.bool (sameE a b)) := by
  rw [raw10]
  simp only [okE, Bool.and_eq_true] at hp; obtain ⟨⟨p1, p2⟩, p3⟩ := hp; rw [p1, p2, p3]; simp only [cond_true]
  unfold sameE
  cases a.1 <;> cases b.1 <;> cases eqRows a.2.1 b.2.1 <;> cases eqRows a.2.2.1 b.2.2.1 <;> cases eqRows a.2.2.2.1 b.2.2.2.1 <;> cases (a.2.2.2.2.1 == b.2.2.2.2.1) <;> rfl
theorem ok11N  : ev cx3 11 [.nil] = outV (.agg [.bool false, .nil, .nil, .nil, .int .i64 0, .int .i64 0]) := by
  rw [raw11N]
  rfl
def M13 : List AV → Option (Bool × AV × List Blk)
  | [v_a, v_b] => (gE v_a).bind fun a => (gE v_b).bind fun b => some (okE a, .bool (leqE a b), [])
  | _ => none
theorem hM13 (args : List AV) (v : AV) (bs : List Blk) (h : M13 args = some (true, v, bs)) : AV.idsL args = [] ∧ (true = true ∨ (plainV v = true ∧ bs.all plainB = true)) ∧ ∃ fb, ex ((evF cx3 keeps 3 13 args).bind (finP true)) false ⟨[], 0⟩ ⟨[], []⟩ = some (v, ⟨enumB 0 bs, bs.length⟩, fb) := by
  unfold M13 at h
  split at h
  · obtain ⟨a, h_a, h0⟩ := Option.bind_eq_some_iff.1 h
    obtain ⟨b, h_b, h1⟩ := Option.bind_eq_some_iff.1 h0
    simp only [Option.some.injEq, Prod.mk.injEq] at h1
    obtain ⟨hp, rfl, rfl⟩ := h1
    have e_a := gE_some h_a
    have e_b := gE_some h_b
    subst e_a e_b
    exact ⟨rfl, .inl rfl, ev_ex (ok13 a b hp)⟩
  · cases h
theorem snd13 : SoundA Try.prog 13 (specP true M13) := soundA_spec (fz := true) (cal3 13) hM13
def M14 : List AV → Option (Bool × AV × List Blk)
  | [v_a, v_b] => (gE v_a).bind fun a => (gE v_b).bind fun b => some (okE a, .bool (sameE a b), [])
  | _ => none
theorem hM14 (args : List AV) (v : AV) (bs : List Blk) (h : M14 args = some (true, v, bs)) : AV.idsL args = [] ∧ (true = true ∨ (plainV v = true ∧ bs.all plainB = true)) ∧ ∃ fb, ex ((evF cx3 keeps 3 14 args).bind (finP true)) false ⟨[], 0⟩ ⟨[], []⟩ = some (v, ⟨enumB 0 bs, bs.length⟩, fb) := by
  unfold M14 at h
  split at h
  · obtain ⟨a, h_a, h0⟩ := Option.bind_eq_some_iff.1 h
    obtain ⟨b, h_b, h1⟩ := Option.bind_eq_some_iff.1 h0
    simp only [Option.some.injEq, Prod.mk.injEq] at h1
    obtain ⟨hp, rfl, rfl⟩ := h1
    have e_a := gE_some h_a
    have e_b := gE_some h_b
    subst e_a e_b
    exact ⟨rfl, .inl rfl, ev_ex (ok14 a b hp)⟩
  · cases h
theorem snd14 : SoundA Try.prog 14 (specP true M14) := soundA_spec (fz := true) (cal3 14) hM14
def M10 : List AV → Option (Bool × AV × List Blk)
  | [v_a, v_b] => (gE v_a).bind fun a => (gE v_b).bind fun b => some (okE a, .bool (sameE a b), [])
  | _ => none
theorem hM10 (args : List AV) (v : AV) (bs : List Blk) (h : M10 args = some (true, v, bs)) : AV.idsL args = [] ∧ (true = true ∨ (plainV v = true ∧ bs.all plainB = true)) ∧ ∃ fb, ex ((evF cx3 keeps 3 10 args).bind (finP true)) false ⟨[], 0⟩ ⟨[], []⟩ = some (v, ⟨enumB 0 bs, bs.length⟩, fb) := by
  unfold M10 at h
  split at h
  · obtain ⟨a, h_a, h0⟩ := Option.bind_eq_some_iff.1 h
    obtain ⟨b, h_b, h1⟩ := Option.bind_eq_some_iff.1 h0
    simp only [Option.some.injEq, Prod.mk.injEq] at h1
    obtain ⟨hp, rfl, rfl⟩ := h1
    have e_a := gE_some h_a
    have e_b := gE_some h_b
    subst e_a e_b
    exact ⟨rfl, .inl rfl, ev_ex (ok10 a b hp)⟩
  · cases h
theorem snd10 : SoundA Try.prog 10 (specP true M10) := soundA_spec (fz := true) (cal3 10) hM10
def M11N : List AV → Option (Bool × AV × List Blk)
  | [.nil] => some (true, .agg [.bool false, .nil, .nil, .nil, .int .i64 0, .int .i64 0], [])
  | _ => none
theorem hM11N (args : List AV) (v : AV) (bs : List Blk) (h : M11N args = some (true, v, bs)) : AV.idsL args = [] ∧ (true = true ∨ (plainV v = true ∧ bs.all plainB = true)) ∧ ∃ fb, ex ((evF cx3 keeps 3 11 args).bind (finP true)) false ⟨[], 0⟩ ⟨[], []⟩ = some (v, ⟨enumB 0 bs, bs.length⟩, fb) := by
  unfold M11N at h
  split at h
  · have h0 := h
    have h0 : (true, _, _) = (true, v, bs) := Option.some.inj h0
    simp only [Prod.mk.injEq] at h0
    obtain ⟨_, rfl, rfl⟩ := h0
    exact ⟨rfl, .inl rfl, ev_ex (ok11N )⟩
  · cases h
theorem snd11 : SoundA Try.prog 11 (specP true M11N) := soundA_spec (fz := true) (cal3 11) hM11N
end Go.Proofs.Ytpahnadbknjepaa.Ex

/- Contracts, level 4. -/
namespace Go.Proofs.Ytpahnadbknjepaa.Ex
open Go.Proofs Go.Proofs.Ytpahnadbknjepaa
set_option maxRecDepth 100000
set_option linter.unusedSimpArgs false
set_option linter.unusedVariables false
def sp4 : Nat → Option (List AV → Prog AV)
  | 46 => some (specP true M46)
  | 55 => some (specP true M55)
  | 45 => some (specP true M45)
  | 37 => some (specP true M37)
  | 38 => some (specP true M38)
  | 31 => some (specP true M31)
  | 36 => some (specP true M36)
  | 43 => some (specP true M43)
  | 44 => some (specP true M44)
  | 50 => some (specP true M50)
  | 54 => some (specP true M54)
  | 20 => some (specP true M20)
  | 39 => some (specP true M39)
  | 26 => some (specP true M26)
  | 52 => some (specP true M52)
  | 51 => some (specP true M51)
  | 40 => some (specP true M40)
  | 29 => some (specP true M29)
  | 28 => some (specP true M28)
  | 35 => some (specP true M35)
  | 30 => some (specP true M30)
  | 22 => some (specP true M22)
  | 15 => some (specP true M15)
  | 8 => some (specP true M8)
  | 13 => some (specP true M13)
  | 14 => some (specP true M14)
  | 10 => some (specP true M10)
  | 11 => some (specP true M11N)
  | _ => none
noncomputable def cx4 : Ctx := { tab := tab, spec := sp4, inl := inl, lps := fun _ _ => none, fuel := 10 }
theorem hsp4 : ∀ g p, cx4.spec g = some p → SoundA Try.prog g p := by
  intro g p h
  change sp4 g = some p at h
  unfold sp4 at h
  split at h
  · cases h; exact snd46
  · cases h; exact snd55
  · cases h; exact snd45
  · cases h; exact snd37
  · cases h; exact snd38
  · cases h; exact snd31
  · cases h; exact snd36
  · cases h; exact snd43
  · cases h; exact snd44
  · cases h; exact snd50
  · cases h; exact snd54
  · cases h; exact snd20
  · cases h; exact snd39
  · cases h; exact snd26
  · cases h; exact snd52
  · cases h; exact snd51
  · cases h; exact snd40
  · cases h; exact snd29
  · cases h; exact snd28
  · cases h; exact snd35
  · cases h; exact snd30
  · cases h; exact snd22
  · cases h; exact snd15
  · cases h; exact snd8
  · cases h; exact snd13
  · cases h; exact snd14
  · cases h; exact snd10
  · cases h; exact snd11
  · cases h
theorem in4 : InlOk Try.prog cx4 := ⟨inl_ok, fun _ _ _ _ _ _ _ _ h => nomatch h⟩
theorem cal4 (g : Nat) : SoundA Try.prog g (evF cx4 keeps 3 g) := evF_sound (tabOk_of tab_ok) (cmpsOk_of tab_ok cmps_ok) mixed in4 hsp4 keeps 3 g
end Go.Proofs.Ytpahnadbknjepaa.Ex

/- What is run, level 4. -/
namespace Go.Proofs.Ytpahnadbknjepaa.Ex
open Go.Proofs Go.Proofs.Ytpahnadbknjepaa
set_option maxRecDepth 100000
theorem raw12  : ev cx4 12 [] =
  Option.some
    (Go.Proofs.Ytpahnadbknjepaa.Ex.AV.bool (Go.Proofs.Ytpahnadbknjepaa.Ex.hasE (Bool.true, List.replicate (Int.toNat (if (0 : Int) > 1 then 0 else 1)) (0, 0), [Go.Proofs.Ytpahnadbknjepaa.Ex.iJoin Go.Proofs.Ytpahnadbknjepaa.Ex.nn (7, 7)], List.replicate (Int.toNat (if (0 : Int) > 0 then 0 else 0)) (0, 0), 0, 0) [0] 0),
      { blks := [], c := 0 }) := by kernel_rfl
end Go.Proofs.Ytpahnadbknjepaa.Ex

/- Contracts, level 4. -/
namespace Go.Proofs.Ytpahnadbknjepaa.Ex
open Go.Proofs Go.Proofs.Ytpahnadbknjepaa
set_option maxRecDepth 100000
set_option linter.unusedSimpArgs false
set_option linter.unusedVariables false
theorem ok12  : ev cx4 12 [] = outV (.bool true) := by
  rw [raw12]
  kernel_rfl
def M12 : List AV → Option (Bool × AV × List Blk)
  | [] => some (true, .bool true, [])
  | _ => none
theorem hM12 (args : List AV) (v : AV) (bs : List Blk) (h : M12 args = some (true, v, bs)) : AV.idsL args = [] ∧ (true = true ∨ (plainV v = true ∧ bs.all plainB = true)) ∧ ∃ fb, ex ((evF cx4 keeps 3 12 args).bind (finP true)) false ⟨[], 0⟩ ⟨[], []⟩ = some (v, ⟨enumB 0 bs, bs.length⟩, fb) := by
  unfold M12 at h
  split at h
  · have h0 := h
    have h0 : (true, _, _) = (true, v, bs) := Option.some.inj h0
    simp only [Prod.mk.injEq] at h0
    obtain ⟨_, rfl, rfl⟩ := h0
    exact ⟨rfl, .inl rfl, ev_ex (ok12 )⟩
  · cases h
theorem snd12 : SoundA Try.prog 12 (specP true M12) := soundA_spec (fz := true) (cal4 12) hM12
end Go.Proofs.Ytpahnadbknjepaa.Ex

