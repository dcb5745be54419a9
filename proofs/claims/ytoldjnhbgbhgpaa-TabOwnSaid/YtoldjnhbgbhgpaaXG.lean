/- A part of the proofs of the laws of tables: XG. -/
import Derived.Test.YtoldjnhbgbhgpaaXF
import Derived.Test.YtoldjnhbgbhgpaaXC
import Derived.Test.YtoldjnhbgbhgpaaXE
/- held.List's loop: where each round begins. -/
namespace Go.Proofs.Ytoldjnhbgbhgpaa.Ex
open Go.Proofs Go.Proofs.Ytoldjnhbgbhgpaa
set_option maxRecDepth 100000
set_option linter.unusedVariables false
set_option linter.unusedSimpArgs false
def spL : Nat → Option (List AV → Prog AV)
  | 28 => some (specP true M28)
  | 23 => some (specP true M23)
  | _ => none
noncomputable def cxL : Ctx := { tab := tab, spec := spL, inl := inl, lps := fun _ _ => none, fuel := 10 }
theorem hspL : ∀ g p, cxL.spec g = some p → SoundA Try.prog g p := by
  intro g p h
  change spL g = some p at h
  unfold spL at h
  split at h
  · cases h; exact snd28
  · cases h; exact snd23
  · cases h
theorem inL : InlOk Try.prog cxL := ⟨inl_ok, fun _ _ _ _ _ _ _ _ h => nomatch h⟩
theorem calL : CalOk Try.prog (evF cxL keeps 3) := fun g => evF_sound (tabOk_of tab_ok) (cmpsOk_of tab_ok cmps_ok) mixed inL hspL keeps 3 g
def keepL19 : List Nat := [5, 0, 3, 2]
noncomputable def FL19 (base : Nat) : Tm → Prog (Nat × Tm) := evC cxL (evF cxL keeps 3) ⟨19, 17, keeps 19, base⟩ 0 (bodyX 19 0)
def TL19 (i s : Int) : Tm := [(5, .int .i64 i), (0, .int .i64 s), (3, .row 0), (2, .nil)]
def HL19 (o : List Int) : Hp := ⟨[(0, .row (.int .i64) o)], 1⟩
end Go.Proofs.Ytoldjnhbgbhgpaa.Ex

/- held.List's loop: each round. -/
namespace Go.Proofs.Ytoldjnhbgbhgpaa.Ex
open Go.Proofs Go.Proofs.Ytoldjnhbgbhgpaa
set_option maxRecDepth 100000
set_option linter.unusedVariables false
set_option linter.unusedSimpArgs false
theorem rnd19 {R : Type} (i s : Int) (o : List Int) (K : Nat → Tm → Hp → Option R) : round 0 keepL19 (FL19 0) (TL19 i s) (HL19 o) K =
  bif Decidable.decide (i < 31) then
    bif Go.Proofs.Ytoldjnhbgbhgpaa.Ex.hasV s i then
      bif Decidable.decide ((o.length + [i].length + 1) * 8 ≤ Go.Proofs.Ytoldjnhbgbhgpaa.Ex.lim) then
        K 0 [(5, Go.Proofs.Ytoldjnhbgbhgpaa.Ex.AV.int Go.IntKind.i64 (Go.IntKind.i64.wrap (i + 1))), (0, Go.Proofs.Ytoldjnhbgbhgpaa.Ex.AV.int Go.IntKind.i64 s), (3, Go.Proofs.Ytoldjnhbgbhgpaa.Ex.AV.row 0), (2, Go.Proofs.Ytoldjnhbgbhgpaa.Ex.AV.nil)]
          { blks := [(0, Go.Proofs.Ytoldjnhbgbhgpaa.Ex.Blk.row (Go.Proofs.Ytoldjnhbgbhgpaa.Ex.Ty.int Go.IntKind.i64) (o ++ [i]))], c := 1 }
      else Option.none
    else
      K 0 [(5, Go.Proofs.Ytoldjnhbgbhgpaa.Ex.AV.int Go.IntKind.i64 (Go.IntKind.i64.wrap (i + 1))), (0, Go.Proofs.Ytoldjnhbgbhgpaa.Ex.AV.int Go.IntKind.i64 s), (3, Go.Proofs.Ytoldjnhbgbhgpaa.Ex.AV.row 0), (2, Go.Proofs.Ytoldjnhbgbhgpaa.Ex.AV.nil)]
        { blks := [(0, Go.Proofs.Ytoldjnhbgbhgpaa.Ex.Blk.row (Go.Proofs.Ytoldjnhbgbhgpaa.Ex.Ty.int Go.IntKind.i64) o)], c := 1 }
  else K 2 [(5, Go.Proofs.Ytoldjnhbgbhgpaa.Ex.AV.int Go.IntKind.i64 i), (0, Go.Proofs.Ytoldjnhbgbhgpaa.Ex.AV.int Go.IntKind.i64 s), (3, Go.Proofs.Ytoldjnhbgbhgpaa.Ex.AV.row 0), (2, Go.Proofs.Ytoldjnhbgbhgpaa.Ex.AV.nil)] { blks := [(0, Go.Proofs.Ytoldjnhbgbhgpaa.Ex.Blk.row (Go.Proofs.Ytoldjnhbgbhgpaa.Ex.Ty.int Go.IntKind.i64) o)], c := 1 } := by kernel_rfl
end Go.Proofs.Ytoldjnhbgbhgpaa.Ex

/- held.List's loop: what it comes to. -/
namespace Go.Proofs.Ytoldjnhbgbhgpaa.Ex
open Go.Proofs Go.Proofs.Ytoldjnhbgbhgpaa
set_option maxRecDepth 100000
set_option linter.unusedVariables false
set_option linter.unusedSimpArgs false
def stepB (s : Int) (i : Nat) (o : List Int) (d : Nat) : List Int := if hasV s (i : Int) then o ++ [(i : Int)] else o
def listV (s : Int) : List Int := foldIx (stepB s) 0 (List.range 31) []
theorem run19 (s : Int) : go (iterM 0 keepL19 (FL19 0) 32 (TL19 0 s)) (HL19 []) = some ((2, TL19 31 s), HL19 (listV s)) := by
  have hlen : (List.range 31).length = 31 := List.length_range
  have key := range_loop (keep := keepL19) (F := FL19 0) (fun i o => o.length ≤ i) (List.range 31) (fun i o => TL19 (i : Nat) s) (fun i o => HL19 o) (fun i o d => .inl (stepB s i o d)) (fun o => (((2, TL19 31 s), HL19 o) : Out3)) ?_ ?_ ?_ ?_ ?_ (List.range 31) 0 [] rfl (Nat.zero_le _) (Nat.le_refl _)
  · rw [runL_ix, hlen] at key
    exact key
  · intro i o d hi hd hm hI K
    rw [hlen] at hi
    rw [rnd19, decide_eq_true (show (i : Int) < 31 by omega), wrap_up hi (by omega)]
    have hq : decide ((o.length + [(i : Int)].length + 1) * 8 ≤ lim) = true := decide_eq_true (by simp only [List.length_singleton]; unfold lim; omega)
    rw [hq]
    unfold stepB
    cases hasV s (i : Int) <;> rfl
  · intro i o d o' hd hI e
    cases e
    unfold stepB
    split
    · simp; omega
    · omega
  · intro i o d x e; cases e
  · intro o K
    rw [hlen, rnd19, decide_eq_false (show ¬ (((31 : Nat) : Int) < 31) by omega)]
    rfl
  · intro o; exact nofun
def dT19 : Tm → Option (Int × Int)
  | [(5, .int .i64 i), (0, .int .i64 s), (3, .row 0), (2, .nil)] => some (i, s)
  | _ => none
def dH19 : Hp → Option (List Int)
  | ⟨[(0, .row (.int .i64) o)], 1⟩ => some o
  | _ => none
theorem dT19_some {T : Tm} {t : Int × Int} (e : dT19 T = some t) : T = TL19 t.1 t.2 := by
  unfold dT19 at e
  split at e
  · cases e; rfl
  · cases e
theorem dH19_some {h : Hp} {u : List Int} (e : dH19 h = some u) : h = HL19 u := by
  unfold dH19 at e
  split at e
  · cases e; rfl
  · cases e
def isE : List Int → Bool
  | [] => true
  | _ => false
def qL19 (base : Nat) (T : Tm) : Prog (Nat × Tm) := match base with
  | 0 => match dT19 T with
    | some t => loopA dH19 (fun u => t.1 == 0 && isE u) fun u => (((2, TL19 31 t.2), HL19 (listV t.2)) : Out3)
    | none => .fail
  | _ + 1 => .fail
theorem qgo19 (base : Nat) (T : Tm) (h : Hp) (r : Nat × Tm) (h' : Hp) (e : go (qL19 base T) h = some (r, h')) : ∃ m, go (iterM base keepL19 (FL19 base) m T) h = some (r, h') := by
  unfold qL19 at e
  split at e
  · split at e
    · rename_i t ht
      obtain ⟨u, hu, c, e2⟩ := loopA_go e
      rw [dT19_some ht, dH19_some hu]
      simp only [Bool.and_eq_true, beq_iff_eq] at c
      have hu0 : u = [] := by
        have := c.2
        unfold isE at this
        split at this
        · rfl
        · cases this
      refine ⟨32, ?_⟩
      rw [c.1, hu0, e2]
      exact run19 t.2
    · cases e
  · cases e
noncomputable def lpL190 (base : Nat) (T : Tm) : Prog (Nat × Tm) := .norm base keepL19 T (qL19 base)
theorem sndL190 : SoundC Try.prog 17 (.loop (bodyX 19 0)) lpL190 :=
  loop_sound (cx := cxL) (cal := evF cxL keeps 3) (kp := keeps 19) (tabOk_of tab_ok) (cmpsOk_of tab_ok cmps_ok) calL mixed (by intro q hq p hp; cases hp) qgo19
noncomputable def lpL19 (base : Nat) (T : Tm) : Prog (Nat × Tm) := ownP [] [(3, .int .i64)] keepL19 lpL190 base T
theorem sndL19 : SoundC Try.prog 17 (.loop (bodyX 19 0)) lpL19 := own_sound sndL190
end Go.Proofs.Ytoldjnhbgbhgpaa.Ex

/- Contracts, level 2. -/
namespace Go.Proofs.Ytoldjnhbgbhgpaa.Ex
open Go.Proofs Go.Proofs.Ytoldjnhbgbhgpaa
set_option maxRecDepth 100000
set_option linter.unusedSimpArgs false
set_option linter.unusedVariables false
def sp2 : Nat → Option (List AV → Prog AV)
  | 28 => some (specP true M28)
  | 23 => some (specP true M23)
  | _ => none
noncomputable def lp2 : Nat → Nat → Option (Nat → Tm → Prog (Nat × Tm))
  | 19, 0 => some lpL19
  | _, _ => none
noncomputable def cx2 : Ctx := { tab := tab, spec := sp2, inl := inl, lps := lp2, fuel := 10 }
theorem hsp2 : ∀ g p, cx2.spec g = some p → SoundA Try.prog g p := by
  intro g p h
  change sp2 g = some p at h
  unfold sp2 at h
  split at h
  · cases h; exact snd28
  · cases h; exact snd23
  · cases h
theorem in2 : InlOk Try.prog cx2 := ⟨inl_ok, fun g fn c hg hb q hq p hp => by
  change lp2 g q.1 = some p at hp
  change inl g = some fn at hg
  generalize hq1 : q.1 = b at hp
  unfold lp2 at hp
  split at hp
  · cases hp; exact lps_case (inl := inl) hg hb hq hq1 (by kernel_rfl) (by kernel_rfl) sndL19
  · cases hp⟩
theorem cal2 (g : Nat) : SoundA Try.prog g (evF cx2 keeps 3 g) := evF_sound (tabOk_of tab_ok) (cmpsOk_of tab_ok cmps_ok) mixed in2 hsp2 keeps 3 g
end Go.Proofs.Ytoldjnhbgbhgpaa.Ex

/- What is run, level 2. -/
namespace Go.Proofs.Ytoldjnhbgbhgpaa.Ex
open Go.Proofs Go.Proofs.Ytoldjnhbgbhgpaa
set_option maxRecDepth 100000
theorem raw19 (s : Int) : ev cx2 19 [aN s] =
  Option.some (Go.Proofs.Ytoldjnhbgbhgpaa.Ex.AV.sl (Go.Proofs.Ytoldjnhbgbhgpaa.Ex.Ty.int Go.IntKind.i64) (Go.Proofs.Ytoldjnhbgbhgpaa.Ex.listV s), { blks := [], c := 0 }) := by kernel_rfl
end Go.Proofs.Ytoldjnhbgbhgpaa.Ex

/- Contracts, level 2. -/
namespace Go.Proofs.Ytoldjnhbgbhgpaa.Ex
open Go.Proofs Go.Proofs.Ytoldjnhbgbhgpaa
set_option maxRecDepth 100000
set_option linter.unusedSimpArgs false
set_option linter.unusedVariables false
theorem ok19 (s : Int) : ev cx2 19 [aN s] = outV (aLi (listV s)) := by
  rw [raw19]
  rfl
def M19 : List AV → Option (Bool × AV × List Blk)
  | [v_s] => (gN v_s).bind fun s => some (true, aLi (listV s), [])
  | _ => none
theorem hM19 (args : List AV) (v : AV) (bs : List Blk) (h : M19 args = some (true, v, bs)) : AV.idsL args = [] ∧ (true = true ∨ (plainV v = true ∧ bs.all plainB = true)) ∧ ∃ fb, ex ((evF cx2 keeps 3 19 args).bind (finP true)) false ⟨[], 0⟩ ⟨[], []⟩ = some (v, ⟨enumB 0 bs, bs.length⟩, fb) := by
  unfold M19 at h
  split at h
  · obtain ⟨s, h_s, h0⟩ := Option.bind_eq_some_iff.1 h
    simp only [Option.some.injEq, Prod.mk.injEq] at h0
    obtain ⟨_, rfl, rfl⟩ := h0
    have e_s := gN_some h_s
    subst e_s
    exact ⟨rfl, .inl rfl, ev_ex (ok19 s)⟩
  · cases h
theorem snd19 : SoundA Try.prog 19 (specP true M19) := soundA_spec (fz := true) (cal2 19) hM19
end Go.Proofs.Ytoldjnhbgbhgpaa.Ex

/- Contracts, level 3. -/
namespace Go.Proofs.Ytoldjnhbgbhgpaa.Ex
open Go.Proofs Go.Proofs.Ytoldjnhbgbhgpaa
set_option maxRecDepth 100000
set_option linter.unusedSimpArgs false
set_option linter.unusedVariables false
theorem bit_pow0 : ((List.range 31).all fun i => BitVec.ofInt 64 (bitV (i : Int)) == BitVec.twoPow 64 i) = true := by kernel_rfl
theorem pow_ne0 : ((List.range 31).all fun i => (IntKind.i64.wrap ((BitVec.twoPow 64 i).toNat : Int) != 0)) = true := by kernel_rfl
theorem bit_pow {i : Nat} (h : i < 31) : BitVec.ofInt 64 (bitV (i : Int)) = BitVec.twoPow 64 i := by
  have := List.all_eq_true.1 bit_pow0 i (List.mem_range.2 h)
  exact beq_iff_eq.1 this
theorem pow_ne {i : Nat} (h : i < 31) : (IntKind.i64.wrap ((BitVec.twoPow 64 i).toNat : Int) != 0) = true := List.all_eq_true.1 pow_ne0 i (List.mem_range.2 h)
theorem hasV_bit (s : Int) (i : Nat) (hi : i < 31) : hasV s (i : Int) = (BitVec.ofInt 64 s).getLsbD i := by
  have e := bit_pow hi
  have e2 := pow_ne hi
  show (IntKind.i64.wrap ((BitVec.ofInt 64 s &&& BitVec.ofInt 64 (bitV (i : Int))).toNat : Int) != 0) = _
  rw [e, BitVec.and_twoPow]
  cases (BitVec.ofInt 64 s).getLsbD i
  · rfl
  · exact e2
def stepP' (p : Nat → Bool) (i : Nat) (o : List Int) (d : Nat) : List Int := if p i then o ++ [(i : Int)] else o
theorem stepP_len (p : Nat → Bool) : ∀ (l : List Nat) (i : Nat) (o : List Int), o.length ≤ (foldIx (stepP' p) i l o).length
  | [], _, _ => Nat.le_refl _
  | d :: r, i, o => by
    rw [foldIx]
    refine Nat.le_trans ?_ (stepP_len p r (i + 1) _)
    unfold stepP'
    split <;> simp
theorem stepP_some (p : Nat → Bool) : ∀ (l : List Nat) (i k : Nat) (o : List Int), k < l.length → p (i + k) = true → 0 < (foldIx (stepP' p) i l o).length
  | [], _, _, _, h, _ => absurd h (by simp)
  | d :: r, i, 0, o, _, hk => by
    rw [foldIx]
    refine Nat.lt_of_lt_of_le ?_ (stepP_len p r (i + 1) _)
    unfold stepP'
    rw [Nat.add_zero] at hk
    rw [hk]; simp
  | d :: r, i, k + 1, o, h, hk => by
    rw [foldIx]
    exact stepP_some p r (i + 1) k _ (by simpa using h) (by rwa [show i + 1 + k = i + (k + 1) by omega])
theorem listV_p (s : Int) : listV s = foldIx (stepP' fun i => hasV s (i : Int)) 0 (List.range 31) [] := rfl
theorem listV_zero : listV 0 = [] := by
  have : ∀ (l : List Nat) (i : Nat), i + l.length ≤ 31 → foldIx (stepB 0) i l [] = [] := by
    intro l
    induction l with
    | nil => intros; rfl
    | cons d r ih =>
      intro i h
      simp only [List.length_cons] at h
      rw [foldIx]
      have e : stepB 0 i [] d = [] := by
        unfold stepB
        rw [hasV_bit 0 i (by omega), show BitVec.ofInt 64 0 = 0#64 from rfl, BitVec.getLsbD_zero]; rfl
      rw [e]
      exact ih (i + 1) (by omega)
  exact this (List.range 31) 0 (by rw [List.length_range]; omega)
theorem listV_len {s : Int} (h0 : 0 ≤ s) (h1 : s < 2147483648) : ((((listV s).length : Nat) : Int) == 0) = (s == 0) := by
  by_cases hs : s = 0
  · subst hs; rw [listV_zero]; rfl
  · rw [show (s == 0) = false by simp [hs]]
    rw [beq_eq_false_iff_ne]
    intro hl
    have hl : (listV s).length = 0 := by omega
    apply hs
    have hb : ∀ i, i < 31 → (BitVec.ofInt 64 s).getLsbD i = false := fun i hi => by
      cases hq : (BitVec.ofInt 64 s).getLsbD i with
      | false => rfl
      | true =>
        have := stepP_some (fun i => hasV s (i : Int)) (List.range 31) 0 i [] (by rw [List.length_range]; exact hi) (by rw [Nat.zero_add]; exact (hasV_bit s i hi).trans hq)
        rw [listV_p] at hl
        omega
    have hn : (BitVec.ofInt 64 s).toNat = s.toNat := by rw [BitVec.toNat_ofInt]; omega
    have hz : BitVec.ofInt 64 s = 0#64 := by
      apply BitVec.eq_of_getLsbD_eq
      intro i hi
      rw [BitVec.getLsbD_zero]
      by_cases h31 : i < 31
      · exact hb i h31
      · have : (BitVec.ofInt 64 s).getLsbD i = (BitVec.ofInt 64 s).toNat.testBit i := rfl
        rw [this, hn]
        refine Nat.testBit_lt_two_pow (Nat.lt_of_lt_of_le (show s.toNat < 2 ^ 31 by omega) (Nat.pow_le_pow_right (by omega) (by omega)))
    have := congrArg BitVec.toNat hz
    rw [hn] at this
    have : s.toNat = 0 := this
    omega
def rngB (a : Int) : Bool := decide (0 ≤ a) && decide (a < 2147483648)
theorem andV_rng {a b : Int} (ha : rngB a = true) (hb : rngB b = true) : 0 ≤ andV a b ∧ andV a b < 2147483648 := by
  simp only [rngB, Bool.and_eq_true, decide_eq_true_eq] at ha hb
  have hn : (BitVec.ofInt 64 a).toNat = a.toNat := by rw [BitVec.toNat_ofInt]; omega
  have hle : (BitVec.ofInt 64 a &&& BitVec.ofInt 64 b).toNat ≤ a.toNat := by rw [BitVec.toNat_and, hn]; exact Nat.and_le_left
  have e : andV a b = ((BitVec.ofInt 64 a &&& BitVec.ofInt 64 b).toNat : Int) := by
    have e0 : andV a b = IntKind.i64.wrap ((BitVec.ofInt 64 a &&& BitVec.ofInt 64 b).toNat : Int) := rfl
    rw [e0]
    have h : ∀ n : Int, IntKind.i64.wrap n = (n + 9223372036854775808) % 18446744073709551616 - 9223372036854775808 := by
      intro n
      simp [IntKind.wrap, IntKind.signed, IntKind.bits]
      split <;> omega
    rw [h]
    generalize (BitVec.ofInt 64 a &&& BitVec.ofInt 64 b).toNat = t at hle ⊢
    omega
  rw [e]
  generalize (BitVec.ofInt 64 a &&& BitVec.ofInt 64 b).toNat = t at hle ⊢
  omega
def sp3 : Nat → Option (List AV → Prog AV)
  | 28 => some (specP true M28)
  | 23 => some (specP true M23)
  | 19 => some (specP true M19)
  | _ => none
noncomputable def cx3 : Ctx := { tab := tab, spec := sp3, inl := inl, lps := fun _ _ => none, fuel := 10 }
theorem hsp3 : ∀ g p, cx3.spec g = some p → SoundA Try.prog g p := by
  intro g p h
  change sp3 g = some p at h
  unfold sp3 at h
  split at h
  · cases h; exact snd28
  · cases h; exact snd23
  · cases h; exact snd19
  · cases h
theorem in3 : InlOk Try.prog cx3 := ⟨inl_ok, fun _ _ _ _ _ _ _ _ h => nomatch h⟩
theorem cal3 (g : Nat) : SoundA Try.prog g (evF cx3 keeps 3 g) := evF_sound (tabOk_of tab_ok) (cmpsOk_of tab_ok cmps_ok) mixed in3 hsp3 keeps 3 g
end Go.Proofs.Ytoldjnhbgbhgpaa.Ex

/- What is run, level 3. -/
namespace Go.Proofs.Ytoldjnhbgbhgpaa.Ex
open Go.Proofs Go.Proofs.Ytoldjnhbgbhgpaa
set_option maxRecDepth 100000
theorem raw14 (a : Int) (b : Int) : ev cx3 14 [aN a, aN b] =
  Option.some
    (Go.Proofs.Ytoldjnhbgbhgpaa.Ex.AV.bool ((↑(Go.Proofs.Ytoldjnhbgbhgpaa.Ex.listV (Go.IntKind.i64.wrap (↑(BitVec.ofInt Go.IntKind.i64.bits a &&& BitVec.ofInt Go.IntKind.i64.bits b).toNat : Int))).length : Int) == 0), { blks := [], c := 0 }) := by kernel_rfl
end Go.Proofs.Ytoldjnhbgbhgpaa.Ex

/- Contracts, level 3. -/
namespace Go.Proofs.Ytoldjnhbgbhgpaa.Ex
open Go.Proofs Go.Proofs.Ytoldjnhbgbhgpaa
set_option maxRecDepth 100000
set_option linter.unusedSimpArgs false
set_option linter.unusedVariables false
theorem ok14 (a : Int) (b : Int) (hp : (rngB a && rngB b) = true) : ev cx3 14 [aN a, aN b] = outV (.bool (andV a b == 0)) := by
  rw [raw14]
  simp only [Bool.and_eq_true] at hp
  obtain ⟨r1, r2⟩ := andV_rng hp.1 hp.2
  have e := listV_len r1 r2
  rw [← e]; rfl
def M14 : List AV → Option (Bool × AV × List Blk)
  | [v_a, v_b] => (gN v_a).bind fun a => (gN v_b).bind fun b => some ((rngB a && rngB b), .bool (andV a b == 0), [])
  | _ => none
theorem hM14 (args : List AV) (v : AV) (bs : List Blk) (h : M14 args = some (true, v, bs)) : AV.idsL args = [] ∧ (true = true ∨ (plainV v = true ∧ bs.all plainB = true)) ∧ ∃ fb, ex ((evF cx3 keeps 3 14 args).bind (finP true)) false ⟨[], 0⟩ ⟨[], []⟩ = some (v, ⟨enumB 0 bs, bs.length⟩, fb) := by
  unfold M14 at h
  split at h
  · obtain ⟨a, h_a, h0⟩ := Option.bind_eq_some_iff.1 h
    obtain ⟨b, h_b, h1⟩ := Option.bind_eq_some_iff.1 h0
    simp only [Option.some.injEq, Prod.mk.injEq] at h1
    obtain ⟨hp, rfl, rfl⟩ := h1
    have e_a := gN_some h_a
    have e_b := gN_some h_b
    subst e_a e_b
    exact ⟨rfl, .inl rfl, ev_ex (ok14 a b hp)⟩
  · cases h
theorem snd14 : SoundA Try.prog 14 (specP true M14) := soundA_spec (fz := true) (cal3 14) hM14
end Go.Proofs.Ytoldjnhbgbhgpaa.Ex

/- TabOwn: what is gone through whole. -/
namespace Go.Proofs.Ytoldjnhbgbhgpaa.Ex
open Go.Proofs Go.Proofs.Ytoldjnhbgbhgpaa
set_option maxRecDepth 100000
abbrev tEn : Ty := .st (.pair (.int .i64) (.pair .bool (.pair (.int .i64) (.pair (.int .i64) (.st (.pair (.int .i64) (.int .i64)))))))
noncomputable def cxK : Ctx := { tab := tab, spec := fun _ => none, inl := inl, lps := fun _ _ => none, fuel := 40 }
theorem sndCloneE : SoundA Try.prog 16 (cloneP 48 tEn) :=
  clone_sound (cx := cxK) (cal := fun _ _ => .fail) (i := ⟨.sl tEn, 24, 25, [], false⟩) (ie := ⟨tEn, 48, 0, [(0, 1), (1, 1), (2, 1), (3, 1), (4, 2)], true⟩) (tabOk_of tab_ok) Try.func16 (inl_ok 16 Try.f16 rfl).2 (t := 28) (tb := 4) (s0 := "slices.go:355") (s1 := "slices.go:357") (s2 := "slices.go:358") (s3 := "slices.go:362") (by kernel_rfl) (by kernel_rfl) (by kernel_rfl) rfl rfl rfl rfl
def spD : Nat → Option (List AV → Prog AV)
  | 16 => some (cloneP 48 tEn)
  | 14 => some (specP true M14)
  | _ => none
noncomputable def cxD : Ctx := { tab := tab, spec := spD, inl := inl, lps := fun _ _ => none, fuel := 40 }
theorem hspD : ∀ g p, cxD.spec g = some p → SoundA Try.prog g p := by
  intro g p h
  change spD g = some p at h
  unfold spD at h
  split at h
  · cases h; exact sndCloneE
  · cases h; exact snd14
  · cases h
theorem inD : InlOk Try.prog cxD := ⟨inl_ok, fun _ _ _ _ _ _ _ _ h => nomatch h⟩
theorem calD (n g : Nat) : SoundA Try.prog g (evF cxD keeps n g) := evF_sound (tabOk_of tab_ok) (cmpsOk_of tab_ok cmps_ok) mixed inD hspD keeps n g
theorem known_run : evW cxD keeps 12 7 [] .auto = .leaf (.bool true) ⟨[], 0⟩ := by kernel_rfl
def MK : List AV → Option (Bool × AV × List Blk)
  | [] => some (true, .bool true, [])
  | _ => none
theorem hMK (args : List AV) (v : AV) (bs : List Blk) (h : MK args = some (true, v, bs)) : AV.idsL args = [] ∧ (true = true ∨ (plainV v = true ∧ bs.all plainB = true)) ∧ ∃ fb, ex ((evF cxD keeps 12 7 args).bind (finP true)) false ⟨[], 0⟩ ⟨[], []⟩ = some (v, ⟨enumB 0 bs, bs.length⟩, fb) := by
  unfold MK at h
  split at h
  · have h0 : (true, _, _) = (true, v, bs) := Option.some.inj h
    simp only [Prod.mk.injEq] at h0
    obtain ⟨_, rfl, rfl⟩ := h0
    exact ⟨rfl, .inl rfl, evW_ex (w := .auto) (by rw [known_run]; rfl)⟩
  · cases h
theorem sndK : SoundA Try.prog 7 (specP true MK) := soundA_spec (fz := true) (calD 12 7) hMK
def spE : Nat → Option (List AV → Prog AV)
  | 7 => some (specP true MK)
  | 14 => some (specP true M14)
  | _ => none
noncomputable def cxE : Ctx := { tab := tab, spec := spE, inl := inl, lps := fun _ _ => none, fuel := 40 }
theorem hspE : ∀ g p, cxE.spec g = some p → SoundA Try.prog g p := by
  intro g p h
  change spE g = some p at h
  unfold spE at h
  split at h
  · cases h; exact sndK
  · cases h; exact snd14
  · cases h
theorem inE : InlOk Try.prog cxE := ⟨inl_ok, fun _ _ _ _ _ _ _ _ h => nomatch h⟩
theorem calE (n g : Nat) : SoundA Try.prog g (evF cxE keeps n g) := evF_sound (tabOk_of tab_ok) (cmpsOk_of tab_ok cmps_ok) mixed inE hspE keeps n g
end Go.Proofs.Ytoldjnhbgbhgpaa.Ex

/- TabOwn: all ways, what is asked left open. -/
namespace Go.Proofs.Ytoldjnhbgbhgpaa.Ex
open Go.Proofs Go.Proofs.Ytoldjnhbgbhgpaa
set_option maxRecDepth 100000
set_option linter.unusedSimpArgs false
set_option linter.unusedVariables false
theorem wrap64 (n : Int) : Go.IntKind.i64.wrap n = (n + 9223372036854775808) % 18446744073709551616 - 9223372036854775808 := by
  simp [Go.IntKind.wrap, Go.IntKind.signed, Go.IntKind.bits]
  split <;> omega
theorem wrap_small {n : Int} (h1 : -9223372036854775808 ≤ n) (h2 : n < 9223372036854775808) : Go.IntKind.i64.wrap n = n := by rw [wrap64]; omega
theorem ite_min (a b : Int) [Decidable (b < a)] : (if b < a then b else a) = min a b := by split <;> omega
theorem ite_max (a b : Int) [Decidable (a < b)] : (if a < b then b else a) = max a b := by split <;> omega
theorem tn_eq (b : Bool) : (true = !b) = (b = false) := by cases b <;> simp
theorem fn_eq (b : Bool) : (false = !b) = (b = true) := by cases b <;> simp
theorem td_eq (p : Prop) [Decidable p] : (true = decide p) = p := by simp
theorem fd_eq (p : Prop) [Decidable p] : (false = decide p) = ¬p := by simp
theorem sem_node {b : Bool} {x y : Tr} {r : AV × Hp} (h1 : b = true → x.sem = some r) (h2 : b = false → y.sem = some r) : (Tr.node b x y).sem = some r := by
  cases b
  · exact h2 rfl
  · exact h1 rfl
theorem of_tree {t u : Tr} {r : AV × Hp} (e : t = u) (h : u.sem = some r) : t.sem = some r := by rw [e]; exact h
theorem andV_def (a b : Int) : IntKind.i64.wrap ((BitVec.ofInt IntKind.i64.bits a &&& BitVec.ofInt IntKind.i64.bits b).toNat : Int) = andV a b := rfl
theorem tabOwnTree (th : Int) (ar : Bool) (g h lo hi t : Int) (arr : Bool) (gg held : Int) : evW cxE keeps 12 3 [.agg [.int .i64 th, .bool ar, .int .i64 g, .int .i64 h, .int .i64 lo, .int .i64 hi], .int .i64 t, .bool arr, .int .i64 gg, .int .i64 held] (WT.ask 0 (WT.ask 13 WT.auto WT.cut) (WT.ask 5 (WT.ask 2 (WT.ask 5 (WT.ask 2 (WT.ask 5 WT.auto (WT.ask 3 WT.cut (WT.ask 3 WT.auto (WT.ask 3 WT.auto (WT.ask 2 WT.auto (WT.ask 2
  WT.auto (WT.ask 2 (WT.ask 4 (WT.ask 4 (WT.ask 3 (WT.ask 1 (WT.ask 9 WT.cut (WT.ask 3 (WT.ask 4 (WT.ask 4 (WT.ask 5 (WT.ask 0 WT.auto WT.cut) (WT.ask 0 WT.cut WT.auto)) WT.cut)
  WT.cut) WT.cut)) (WT.ask 5 (WT.ask 4 (WT.ask 4 (WT.ask 5 (WT.ask 0 WT.cut WT.auto) WT.auto) WT.cut) WT.cut) WT.cut)) WT.cut) (WT.ask 10 (WT.ask 4 (WT.ask 4 WT.cut WT.auto) WT.cut)
  WT.cut)) (WT.ask 15 (WT.ask 4 WT.cut WT.auto) WT.cut)) (WT.ask 20 WT.cut WT.auto)))))))) WT.cut) WT.auto) WT.auto) WT.auto)) =
  Tr.node (lo == 1 && hi == 0) (Tr.node (decide (lo > hi)) (Tr.leaf (AV.bool Bool.true) ⟨[], 0⟩) Tr.dead) (Tr.node (decide (lo ≤ hi)) (Tr.node (decide (lo ≥ -2147483648)) (Tr.node
  (decide (lo ≤ 2147483647)) (Tr.node (decide (hi ≥ -2147483648)) (Tr.node (!decide (hi ≤ 2147483647)) (Tr.leaf (AV.bool Bool.true) ⟨[], 0⟩) (Tr.node (decide (lo > hi)) Tr.dead
  (Tr.node (decide (h < 0)) (Tr.leaf (AV.bool Bool.true) ⟨[], 0⟩) (Tr.node (decide (h ≥ 2147483648)) (Tr.leaf (AV.bool Bool.true) ⟨[], 0⟩) (Tr.node (decide (held < 0)) (Tr.leaf
  (AV.bool Bool.true) ⟨[], 0⟩) (Tr.node (decide (held ≥ 2147483648)) (Tr.leaf (AV.bool Bool.true) ⟨[], 0⟩) (Tr.node (th != t) (Tr.node (ar == arr) (Tr.node (g == gg) (Tr.node
  (Go.Proofs.Ytoldjnhbgbhgpaa.Ex.rngB h && Go.Proofs.Ytoldjnhbgbhgpaa.Ex.rngB held) (Tr.node (Go.Proofs.Ytoldjnhbgbhgpaa.Ex.andV h held == 0) (Tr.node (decide (lo > hi)) Tr.dead (Tr.node (th != t) (Tr.node (ar == arr) (Tr.node (g == gg) (Tr.node
  (IntKind.i64.wrap (↑(BitVec.ofInt IntKind.i64.bits h &&& BitVec.ofInt IntKind.i64.bits held).toNat : Int) == 0) (Tr.node (lo == lo && hi == hi) (Tr.leaf (AV.bool Bool.true) ⟨[],
  0⟩) Tr.dead) (Tr.node (decide (lo > hi)) Tr.dead (Tr.leaf (AV.bool Bool.false) ⟨[], 0⟩))) Tr.dead) Tr.dead) Tr.dead)) (Tr.node (th != t) (Tr.node (ar == arr) (Tr.node (g == gg)
  (Tr.node (IntKind.i64.wrap (↑(BitVec.ofInt IntKind.i64.bits h &&& BitVec.ofInt IntKind.i64.bits held).toNat : Int) == 0) (Tr.node (1 == lo && 0 == hi) Tr.dead (Tr.leaf (AV.bool
  Bool.false) ⟨[], 0⟩)) (Tr.leaf (AV.bool Bool.true) ⟨[], 0⟩)) Tr.dead) Tr.dead) Tr.dead)) Tr.dead) (Tr.node (th != t) (Tr.node (ar == arr) (Tr.node (g == gg) Tr.dead (Tr.leaf
  (AV.bool Bool.true) ⟨[], 0⟩)) Tr.dead) Tr.dead)) (Tr.node (th != t) (Tr.node (ar == arr) Tr.dead (Tr.leaf (AV.bool Bool.true) ⟨[], 0⟩)) Tr.dead)) (Tr.node (th != t) Tr.dead
  (Tr.leaf (AV.bool Bool.true) ⟨[], 0⟩))))))))) Tr.dead) (Tr.leaf (AV.bool Bool.true) ⟨[], 0⟩)) (Tr.leaf (AV.bool Bool.true) ⟨[], 0⟩)) (Tr.leaf (AV.bool Bool.true) ⟨[], 0⟩)) := by kernel_rfl
theorem law3 (th : Int) (ar : Bool) (g h lo hi t : Int) (arr : Bool) (gg held : Int) : ∃ w, (evW cxE keeps 12 3 [.agg [.int .i64 th, .bool ar, .int .i64 g, .int .i64 h, .int .i64 lo, .int .i64 hi], .int .i64 t, .bool arr, .int .i64 gg, .int .i64 held] w).sem = some (.bool true, ⟨[], 0⟩) := by
  refine ⟨_, of_tree (tabOwnTree th ar g h lo hi t arr gg held) ?_⟩
  (repeat' first | exact rfl | refine sem_node (fun h => ?_) (fun h => ?_)) <;> (exfalso; (try simp only [rngB, andV_def, decide_eq_true_eq, decide_eq_false_iff_not, Bool.and_eq_true, Bool.and_eq_false_iff, Bool.or_eq_true, Bool.or_eq_false_iff, Bool.not_eq_true', Bool.not_eq_false', beq_iff_eq, beq_eq_false_iff_ne, bne_iff_ne, ne_eq, bne_eq_false_iff_eq, beq_self_eq_true, Bool.and_self, Bool.not_true, Bool.not_false, Bool.true_and, Bool.and_true, Bool.false_and, Bool.and_false, Bool.true_eq_false, Bool.false_eq_true, tn_eq, fn_eq, td_eq, fd_eq, Bool.not_eq_true, Bool.not_eq_false, bne, Bool.not_not] at *) <;> (try simp (disch := omega) only [wrap_small] at *) <;> (try simp only [ite_min, ite_max] at *) <;> first | omega | contradiction)
end Go.Proofs.Ytoldjnhbgbhgpaa.Ex

