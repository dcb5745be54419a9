/- A part of the proofs of the laws of tables: TH. -/
import Derived.Test.YtbdcblpjemmipaaTG
import Derived.Test.YtbdcblpjemmipaaTF
import Derived.Test.YtbdcblpjemmipaaTD
namespace Go.Proofs.Ytbdcblpjemmipaa.Ex
open Go.Proofs
set_option maxRecDepth 100000
set_option maxHeartbeats 2000000
set_option linter.unusedVariables false
set_option linter.unusedSimpArgs false
theorem n_cmp (a b : Int) : g_cmp_Compare_int a b = some (cmpI a b 0) := by
  unfold g_cmp_Compare_int cmpI
  simp only [cond_eq_ite, bne_self_eq_false, Bool.false_eq_true, if_false, decide_eq_true_eq]
  (repeat' split) <;> rfl
theorem n_flag (b : Bool) : g_tab_flag b = some (arrK b) := by cases b <;> rfl
theorem n_or (a b c d : Int) : g_cmp_Or_int [a, b, c, d] = some (bif a != 0 then a else bif b != 0 then b else bif c != 0 then c else d) := by
  unfold g_cmp_Or_int
  have h := rg_cmp_Or_int_125_0_0 0 [a, b, c, d] () (by simp)
  have e : L_cmp_Or_int_125_0_0 (0, [a, b, c, d], (([a, b, c, d] : List Int).length : Int), 0) = _ := h
  rw [e]
  unfold rv_cmp_Or_int_125_0_0
  simp only [rangeO, bd_cmp_Or_int_125_0_0, fn_cmp_Or_int_125_0_0]
  cases ha : a != 0 <;> cases hb : b != 0 <;> cases hc : c != 0 <;> cases hd : d != 0 <;> (try rfl)
  have : d = 0 := by simpa using hd
  subst this; rfl
theorem n_tab_order (a b : En) : g_tab_order a b = some (ordI a b) := by
  unfold g_tab_order G_cmp_Compare_int G_tab_flag G_cmp_Or_int
  simp only [n_cmp, n_flag, optC_some, n_or]
  congr 1
  rw [ord_nat]
  have : IntKind.i64.wrap (arrK a.2.1 - arrK b.2.1) = arrK a.2.1 - arrK b.2.1 := wr (by unfold arrK; split <;> split <;> decide)
  rw [this]
  have ha : arrK a.2.1 = 0 ∨ arrK a.2.1 = 1 := by unfold arrK; split <;> simp
  have hb : arrK b.2.1 = 0 ∨ arrK b.2.1 = 1 := by unfold arrK; split <;> simp
  generalize arrK a.2.1 = p at *
  generalize arrK b.2.1 = q at *
  unfold cmpI
  simp only [cond_eq_ite, bne_iff_ne]
  (repeat' split) <;> omega
theorem half (a : Int) (h0 : 0 ≤ a) (h : a < 4611686018427387904) : IntKind.i64.wrap ((IntKind.u64.wrap (IntKind.i64.wrap a)).fdiv (2 ^ min (Int.toNat 1) IntKind.u64.bits)) = a / 2 := by
  have e1 : IntKind.i64.wrap a = a := wr (by omega)
  have e2 : IntKind.u64.wrap a = a := by
    simp [IntKind.wrap, IntKind.signed, IntKind.bits]
    omega
  have e3 : (2 : Int) ^ min (Int.toNat 1) IntKind.u64.bits = 2 := by decide
  rw [e1, e2, e3, Int.fdiv_eq_ediv_of_nonneg _ (by omega)]
  exact wr (by omega)
theorem find_go (l : List En) (hs : srt l) (hn : l.length < 2305843009213693952) (n b0 : Int) (b01 : Bool) (b02 b03 b04 b05 : Int) (e : En) : ∀ (k fuel i j : Nat), j - i ≤ k → k < fuel → i ≤ posT e l → posT e l ≤ j → j ≤ l.length →
    iterO (fun x => st_tab_find_96_0_0 x.1 x.2.1 x.2.2.1 x.2.2.2.1 x.2.2.2.2.1 x.2.2.2.2.2.1 x.2.2.2.2.2.2.1 x.2.2.2.2.2.2.2.1 x.2.2.2.2.2.2.2.2.1 x.2.2.2.2.2.2.2.2.2.1 x.2.2.2.2.2.2.2.2.2.2.1 x.2.2.2.2.2.2.2.2.2.2.2.1 x.2.2.2.2.2.2.2.2.2.2.2.2.1 x.2.2.2.2.2.2.2.2.2.2.2.2.2.1 x.2.2.2.2.2.2.2.2.2.2.2.2.2.2.1 x.2.2.2.2.2.2.2.2.2.2.2.2.2.2.2) fuel (l, n, (i : Int), (j : Int), b0, b01, b02, b03, b04, b05, e) = some (l, n, (posT e l : Int), b0, b01, b02, b03, b04, b05, e)
  | k, 0, i, j, h1, h2, _, _, _ => absurd h2 (by omega)
  | k, fuel + 1, i, j, h1, h2, h3, h4, h5 => by
    rw [iterO]
    simp only [st_tab_find_96_0_0]
    by_cases hij : i < j
    · rw [decide_eq_true (show (i : Int) < (j : Int) by omega)]
      have hh := half ((i : Int) + (j : Int)) (by omega) (by omega)
      rw [hh, show ((i : Int) + (j : Int)) / 2 = (((i + j) / 2 : Nat) : Int) by omega]
      generalize hm : (i + j) / 2 = m
      have hml : m < l.length := by omega
      rw [decide_eq_true (show (0 : Int) ≤ (m : Int) by omega), Int.toNat_natCast, List.getElem?_eq_getElem hml]
      simp only [cond_true, optC_some, G_tab_order]
      have hd : l[m]? = some l[m] := List.getElem?_eq_getElem hml
      generalize l[m] = d at hd
      rw [show ((e.1, e.2.1, e.2.2.1, e.2.2.2.1, e.2.2.2.2.1, e.2.2.2.2.2) : En) = e from rfl, n_tab_order]
      simp only [optC_some]
      obtain ⟨k', rfl⟩ : ∃ k', k = k' + 1 := ⟨k - 1, by omega⟩
      by_cases ho : ordI d e < 0
      · rw [decide_eq_true ho, show IntKind.i64.wrap ((m : Int) + 1) = ((m + 1 : Nat) : Int) by rw [wr (by omega)]; omega]
        have hp : m < posT e l := by
          by_cases q : posT e l ≤ m
          · exact absurd ho (pos_after hs m d q hd)
          · omega
        exact find_go l hs hn n b0 b01 b02 b03 b04 b05 e k' fuel (m + 1) j (by omega) (by omega) (by omega) h4 h5
      · rw [decide_eq_false ho]
        have hp : posT e l ≤ m := by
          by_cases q : m < posT e l
          · exact absurd (pos_before e l m d q hd) ho
          · omega
        exact find_go l hs hn n b0 b01 b02 b03 b04 b05 e k' fuel i m (by omega) (by omega) h3 hp (by omega)
    · have : posT e l = i := by omega
      rw [decide_eq_false (show ¬ (i : Int) < (j : Int) by omega), this]
      rfl
theorem fnd_pos {e : En} {l : List En} (h : fndT e l = true) : posT e l < l.length := by
  obtain ⟨d, hd, _⟩ := fnd_at e l h
  exact (List.getElem?_eq_some_iff.1 hd).1
theorem fnd_is (e : En) (l : List En) (d : En) (hd : l[posT e l]? = some d) : fndT e l = (ordI d e == 0) := by
  cases h : fndT e l with
  | true =>
    obtain ⟨c, hc, hk⟩ := fnd_at e l h
    rw [hd] at hc; cases hc
    exact (beq_iff_eq.2 (ord_eq.2 hk)).symm
  | false => exact (beq_eq_false_iff_ne.2 (fnd_no e l h d hd)).symm
theorem n_tab_find (l : List En) (e : En) (hs : srt l) (hn : l.length < 2305843009213693952) : g_tab_find l e = some ((posT e l : Int), fndT e l, ()) := by
  unfold g_tab_find
  have h := find_go l hs hn (l.length : Int) e.1 e.2.1 e.2.2.1 e.2.2.2.1 e.2.2.2.2.1 e.2.2.2.2.2 e l.length FUEL 0 l.length (by omega) (by unfold FUEL; omega) (Nat.zero_le _) (pos_le e l) (Nat.le_refl _)
  rw [show L_tab_find_96_0_0 (l, (l.length : Int), 0, (l.length : Int), e.1, e.2.1, e.2.2.1, e.2.2.2.1, e.2.2.2.2.1, e.2.2.2.2.2, e) = _ from h]
  simp only [optC_some]
  by_cases hp : posT e l < l.length
  · rw [decide_eq_true (show (posT e l : Int) < (l.length : Int) by omega), decide_eq_true (show (0 : Int) ≤ (posT e l : Int) by omega), Int.toNat_natCast]
    have hd : l[posT e l]? = some l[posT e l] := List.getElem?_eq_getElem hp
    rw [hd]
    simp only [cond_true, optC_some, G_tab_order, n_tab_order]
    rw [fnd_is e l _ hd]
  · rw [decide_eq_false (show ¬ (posT e l : Int) < (l.length : Int) by omega)]
    cases hf : fndT e l with
    | true => exact absurd (fnd_pos hf) hp
    | false => rfl
theorem place_go2 (e : En) (L : List En) : ∀ (r : List En) (j : Nat), j + r.length = L.length →
    rangeO (fun i s d => bd_ref12_place_64_0_0 e.1 e.2.1 e.2.2.1 e.2.2.2.1 e.2.2.2.2.1 e.2.2.2.2.2 L i d) (fun s => fn_ref12_place_64_0_0 e.1 e.2.1 e.2.2.1 e.2.2.2.1 e.2.2.2.2.1 e.2.2.2.2.2 L) j r () = some (L, ((j + posT e r : Nat) : Int), e)
  | [], j, h => by
    show some (L, (L.length : Int), e) = _
    simp only [List.length_nil, Nat.add_zero] at h
    rw [← h]; rfl
  | d :: r, j, h => by
    have hb : bd_ref12_place_64_0_0 e.1 e.2.1 e.2.2.1 e.2.2.2.1 e.2.2.2.2.1 e.2.2.2.2.2 L j d = bif decide (ordI d e < 0) then some (.inl ()) else some (.inr (L, (j : Int), e)) := by
      unfold bd_ref12_place_64_0_0 G_ref12_order
      simp only [n_ref12_order, optC_some]
    unfold posT
    by_cases q : ordI d e < 0
    · rw [decide_eq_true q] at hb
      rw [if_pos q, rangeO_inl hb, place_go2 e L r (j + 1) (by simp only [List.length_cons] at h; omega), show j + (posT e r + 1) = j + 1 + posT e r by omega]
    · rw [decide_eq_false q] at hb
      rw [if_neg q]
      unfold rangeO
      rw [hb]
      rfl
theorem n_place2 (l : List En) (e : En) (hl : l.length < 9223372036854775807) : g_ref12_place l e = some ((posT e l : Int), fndT e l, ()) := by
  have h2 := place_go2 e l l 0 (by omega)
  rw [Nat.zero_add] at h2
  unfold g_ref12_place
  rw [show L_ref12_place_64_0_0 (l, 0, e) = some (l, (posT e l : Int), e) from (rg_ref12_place_64_0_0 e.1 e.2.1 e.2.2.1 e.2.2.2.1 e.2.2.2.2.1 e.2.2.2.2.2 l () hl).trans h2]
  simp only [optC_some]
  by_cases hp : posT e l < l.length
  · have hd : l[posT e l]? = some l[posT e l] := List.getElem?_eq_getElem hp
    rw [decide_eq_true (show (posT e l : Int) < (l.length : Int) by omega), decide_eq_true (show (0 : Int) ≤ (posT e l : Int) by omega), Int.toNat_natCast, hd]
    simp only [cond_true, optC_some, G_ref12_order, n_ref12_order]
    rw [fnd_is e l _ hd]
  · rw [decide_eq_false (show ¬ (posT e l : Int) < (l.length : Int) by omega)]
    cases hf : fndT e l with
    | true => exact absurd (fnd_pos hf) hp
    | false => rfl
end Go.Proofs.Ytbdcblpjemmipaa.Ex

namespace Go.Proofs.Ytbdcblpjemmipaa.Ex
set_option maxRecDepth 100000
set_option maxHeartbeats 2000000
set_option linter.unusedVariables false
set_option linter.unusedSimpArgs false
noncomputable def bd_itv_Widen_63_1_0 (b0 : Int) (b0_1 : Int) (b1 : Int) (b1_1 : Int) (b2 : Int) (b2_1 : Int) (s24 : (List Int)) (i : Nat) (s8 : Int) (s9 : Int) (d : Int) : Option ((Int × Int) ⊕ (Int × Int × Int × Int × Int × Int × Int × Int)) :=
  optC (G_num_Fits ([d], ())) (none) fun d14 ↦
   bif !d14 then
   some (Sum.inl (s8, s9))
 else bif decide (d ≤ b2) then
   bif decide (d ≥ b2_1) then
   some (Sum.inl (if d > s8 then d else s8, if d < s9 then d else s9))
 else some (Sum.inl (if d > s8 then d else s8, s9))
 else bif decide (d ≥ b2_1) then
   some (Sum.inl (s8, if d < s9 then d else s9))
 else some (Sum.inl (s8, s9))
noncomputable def fn_itv_Widen_63_1_0 (b0 : Int) (b0_1 : Int) (b1 : Int) (b1_1 : Int) (b2 : Int) (b2_1 : Int) (s24 : (List Int)) (s8 : Int) (s9 : Int) : Option (Int × Int × Int × Int × Int × Int × Int × Int) :=
  some (s8, s9, b0, b0_1, b1, b1_1, b2, b2_1)
noncomputable abbrev rx_itv_Widen_63_1_0 (b0 : Int) (b0_1 : Int) (b1 : Int) (b1_1 : Int) (b2 : Int) (b2_1 : Int) (s24 : (List Int)) (i : Nat) (s : (Int × Int)) : (Int × Int × (List Int) × Int × Int × Int × Int × Int × Int × Int × Int) := (s.1, s.2, s24, (s24.length : Int), (i : Int), b0, b0_1, b1, b1_1, b2, b2_1)
noncomputable def rv_itv_Widen_63_1_0 (b0 : Int) (b0_1 : Int) (b1 : Int) (b1_1 : Int) (b2 : Int) (b2_1 : Int) (s24 : (List Int)) (s : (Int × Int)) : Option (Int × Int × Int × Int × Int × Int × Int × Int) := rangeO (fun i s d => bd_itv_Widen_63_1_0 b0 b0_1 b1 b1_1 b2 b2_1 s24 i s.1 s.2 d) (fun s => fn_itv_Widen_63_1_0 b0 b0_1 b1 b1_1 b2 b2_1 s24 s.1 s.2) 0 s24 s
theorem rg_itv_Widen_63_1_0 (b0 : Int) (b0_1 : Int) (b1 : Int) (b1_1 : Int) (b2 : Int) (b2_1 : Int) (s24 : (List Int)) (s : (Int × Int)) (hl : s24.length < 9223372036854775807) : L_itv_Widen_63_1_0 (s.1, s.2, s24, (s24.length : Int), 0, b0, b0_1, b1, b1_1, b2, b2_1) = rv_itv_Widen_63_1_0 b0 b0_1 b1 b1_1 b2 b2_1 s24 s := by
  unfold L_itv_Widen_63_1_0 rv_itv_Widen_63_1_0
  refine iterO_range0 s24 (rx_itv_Widen_63_1_0 b0 b0_1 b1 b1_1 b2 b2_1 s24) _ _ ?_ ?_ s (by unfold FUEL; omega)
  · intro i s d hi hd
    have e1 : decide ((i : Int) < (s24.length : Int)) = true := decide_eq_true (by omega)
    have e2 : decide (0 ≤ (i : Int)) = true := decide_eq_true (by omega)
    have e3 : Int.toNat (i : Int) = i := Int.toNat_natCast i
    have e4 := wrap_next hi (Nat.le_of_lt hl)
    show st_itv_Widen_63_1_0 (s.1) (s.2) (s24) ((s24.length : Int)) ((i : Int)) (b0) (b0_1) (b1) (b1_1) (b2) (b2_1) = upd _ (bd_itv_Widen_63_1_0 b0 b0_1 b1 b1_1 b2 b2_1 s24 i s.1 s.2 d)
    unfold st_itv_Widen_63_1_0 bd_itv_Widen_63_1_0
    simp only [e1, e2, e3, e4, hd, cond_true, cond_false, optC_some, upd_cond, upd_optC, upd_elim, upd_inl, upd_inr, upd_none]
  · intro s
    have e1 : decide ((s24.length : Int) < (s24.length : Int)) = false := decide_eq_false (by omega)
    show st_itv_Widen_63_1_0 (s.1) (s.2) (s24) ((s24.length : Int)) ((s24.length : Int)) (b0) (b0_1) (b1) (b1_1) (b2) (b2_1) = _
    unfold st_itv_Widen_63_1_0 fn_itv_Widen_63_1_0
    rw [e1]
    rfl
end Go.Proofs.Ytbdcblpjemmipaa.Ex

namespace Go.Proofs.Ytbdcblpjemmipaa.Ex
open Go.Proofs Go.Proofs.Ytbdcblpjemmipaa
set_option maxRecDepth 100000
set_option maxHeartbeats 2000000
set_option linter.unusedVariables false
set_option linter.unusedSimpArgs false
abbrev ty_162_0 : Type := (((List Int) × (Unit × (Unit × (Unit × (Int × (Int × (Int × Unit))))))) × ((Int × (Int × Unit)) × ((Int × (Int × Unit)) × ((Int × (Int × Unit)) × Unit))))
abbrev ty_162_1 : Type := ((Unit × (Unit × (Unit × (Int × (Int × Unit))))) × ((Int × (Int × Unit)) × ((Int × (Int × Unit)) × ((Int × (Int × Unit)) × Unit))))
abbrev ty_162_2 : Type := ((List Int) × Int × Int × Int × Int × Int × Int × Int × Int × Int)
abbrev fn_162_0 := (fun (x : (Int × Int × Int × Int × Int × Int × Int × Int)) => ((((), (), (), x.1, x.2.1, ()), ((x.2.2.1, x.2.2.2.1, ()), (x.2.2.2.2.1, x.2.2.2.2.2.1, ()), (x.2.2.2.2.2.2.1, x.2.2.2.2.2.2.2, ()), ())) : ty_162_1))
abbrev fn_162_1 := (fun (d : ty_162_0) => ((d.1.1, d.1.2.2.2.2.1, d.1.2.2.2.2.2.1, d.1.2.2.2.2.2.2.1, d.2.1.1, d.2.1.2.1, d.2.2.1.1, d.2.2.1.2.1, d.2.2.2.1.1, d.2.2.2.1.2.1) : ty_162_2))
def ash_ref2_Widen : List Sh := [.dat tI, .dat tI, .dat (.sl (.int .i64))]
def kp_ref2_Widen_65_0 : Nat → List Nat := fun c => bif c.beq 0 then [2, 3, 6, 7, 8, 9, 10] else [3, 6, 7, 8, 9]
noncomputable def sp_ref2_Widen : Nat → Option (List AV → Prog AV)
  | 49 => some (con_ref2_Empty)
  | 15 => some (con_ref2_Join)
  | _ => none
theorem hsp_ref2_Widen : ∀ g p, sp_ref2_Widen g = some p → SoundA Try.prog g p := by
  intro g p h
  unfold sp_ref2_Widen at h
  split at h
  · cases h; exact snd_ref2_Empty
  · cases h; exact snd_ref2_Join
  · cases h
noncomputable def cx_ref2_Widen0 : Ctx := { tab := tab, spec := sp_ref2_Widen, inl := inl, lps := fun _ _ => none, fuel := 40 }
theorem in_ref2_Widen0 : InlOk Try.prog cx_ref2_Widen0 := ⟨inl_ok, fun _ _ _ _ _ _ _ _ h => nomatch h⟩
theorem cal_ref2_Widen0 (g : Nat) : SoundA Try.prog g (evF cx_ref2_Widen0 keeps 8 g) := evF_sound (tabOk_of tab_ok) (cmpsOk_of tab_ok cmps_ok) mixed in_ref2_Widen0 hsp_ref2_Widen keeps 8 g
noncomputable def F_ref2_Widen_65_0 (base : Nat) : Tm → Prog (Nat × Tm) := evC cx_ref2_Widen0 (evF cx_ref2_Widen0 keeps 8) ⟨65, 66, keeps 65, base⟩ 0 (bodyX 65 0)
def s_ref2_Widen_65_0_0 : StS := ⟨[(2, .sl (.int .i64)), (3, .ptr 0 0), (6, .ptr 1 0), (7, .ptr 2 0), (8, .int .i64), (9, .int .i64), (10, .int .i64)], [(0, .box [.int .i64, .int .i64]), (1, .box [.int .i64, .int .i64]), (2, .box [.int .i64, .int .i64])], 3⟩
def x_ref2_Widen_65_0_0_0 : StS := ⟨[(3, .ptr 0 0), (6, .ptr 1 0), (7, .ptr 2 0), (8, .int .i64), (9, .int .i64)], [(0, .box [.int .i64, .int .i64]), (1, .box [.int .i64, .int .i64]), (2, .box [.int .i64, .int .i64])], 3⟩
noncomputable def st_ref2_Widen_65_0_0 (s2 : (List Int)) (s8 : Int) (s9 : Int) (s10 : Int) (b0 : Int) (b0_1 : Int) (b1 : Int) (b1_1 : Int) (b2 : Int) (b2_1 : Int) : Option (ty_162_2 ⊕ (Int × Int × Int × Int × Int × Int × Int × Int)) :=
  bif decide (s10 < (↑s2.length : Int)) then
 bif decide (0 ≤ s10) then
 optC s2[s10.toNat]? none fun d12 ↦
 bif decide (d12 ≤ b2) then
 bif decide (d12 > s8) then
 bif decide (d12 ≥ b2_1) then
 bif decide (d12 < s9) then some (Sum.inl (s2, d12, d12, Go.IntKind.i64.wrap (s10 + 1), b0, b0_1, b1, b1_1, b2, b2_1))
 else some (Sum.inl (s2, d12, s9, Go.IntKind.i64.wrap (s10 + 1), b0, b0_1, b1, b1_1, b2, b2_1))
 else some (Sum.inl (s2, d12, s9, Go.IntKind.i64.wrap (s10 + 1), b0, b0_1, b1, b1_1, b2, b2_1))
 else
 bif decide (d12 ≥ b2_1) then
 bif decide (d12 < s9) then some (Sum.inl (s2, s8, d12, Go.IntKind.i64.wrap (s10 + 1), b0, b0_1, b1, b1_1, b2, b2_1))
 else some (Sum.inl (s2, s8, s9, Go.IntKind.i64.wrap (s10 + 1), b0, b0_1, b1, b1_1, b2, b2_1))
 else some (Sum.inl (s2, s8, s9, Go.IntKind.i64.wrap (s10 + 1), b0, b0_1, b1, b1_1, b2, b2_1))
 else
 bif decide (d12 ≥ b2_1) then
 bif decide (d12 < s9) then some (Sum.inl (s2, s8, d12, Go.IntKind.i64.wrap (s10 + 1), b0, b0_1, b1, b1_1, b2, b2_1))
 else some (Sum.inl (s2, s8, s9, Go.IntKind.i64.wrap (s10 + 1), b0, b0_1, b1, b1_1, b2, b2_1))
 else some (Sum.inl (s2, s8, s9, Go.IntKind.i64.wrap (s10 + 1), b0, b0_1, b1, b1_1, b2, b2_1))
 else none
 else some (Sum.inr (s8, s9, b0, b0_1, b1, b1_1, b2, b2_1))
theorem rn_ref2_Widen_65_0_0 (s2 : (List Int)) (s8 : Int) (s9 : Int) (s10 : Int) (b0 : Int) (b0_1 : Int) (b1 : Int) (b1_1 : Int) (b2 : Int) (b2_1 : Int) : rdX cx_ref2_Widen0 keeps 8 ⟨65, 66, keeps 65, 0⟩ 0 (bodyX 65 0) 0 kp_ref2_Widen_65_0 (sT s_ref2_Widen_65_0_0 ((s2, (), (), (), s8, s9, s10, ()), ((b0, b0_1, ()), (b1, b1_1, ()), (b2, b2_1, ()), ()))) (sH s_ref2_Widen_65_0_0 ((s2, (), (), (), s8, s9, s10, ()), ((b0, b0_1, ()), (b1, b1_1, ()), (b2, b2_1, ()), ()))) (rdO (fun T h => (rdS s_ref2_Widen_65_0_0 T h).map fn_162_1) (getE 2 x_ref2_Widen_65_0_0_0 (fun (d : ty_162_1) => ((d.1.2.2.2.1, d.1.2.2.2.2.1, d.2.1.1, d.2.1.2.1, d.2.2.1.1, d.2.2.1.2.1, d.2.2.2.1.1, d.2.2.2.1.2.1) : (Int × Int × Int × Int × Int × Int × Int × Int))))) = st_ref2_Widen_65_0_0 s2 s8 s9 s10 b0 b0_1 b1 b1_1 b2 b2_1 := by kernel_rfl
noncomputable def L_ref2_Widen_65_0_0 (x : ty_162_2) : Option (Int × Int × Int × Int × Int × Int × Int × Int) := iterO (fun x => st_ref2_Widen_65_0_0 x.1 x.2.1 x.2.2.1 x.2.2.2.1 x.2.2.2.2.1 x.2.2.2.2.2.1 x.2.2.2.2.2.2.1 x.2.2.2.2.2.2.2.1 x.2.2.2.2.2.2.2.2.1 x.2.2.2.2.2.2.2.2.2) FUEL x
noncomputable def q_ref2_Widen_65_0 : Nat → Tm → Prog (Nat × Tm) := (varP 0 (fun T h => (rdS s_ref2_Widen_65_0_0 T h).map fn_162_1) L_ref2_Widen_65_0_0 (altE 2 x_ref2_Widen_65_0_0_0 fn_162_0) (fun _ _ => .fail))
theorem ok_ref2_Widen_65_0 : VarOk kp_ref2_Widen_65_0 F_ref2_Widen_65_0 q_ref2_Widen_65_0 := (varX_ok (s := s_ref2_Widen_65_0_0) (un := (fun (x : ty_162_2) => (((x.1, (), (), (), x.2.1, x.2.2.1, x.2.2.2.1, ()), ((x.2.2.2.2.1, x.2.2.2.2.2.1, ()), (x.2.2.2.2.2.2.1, x.2.2.2.2.2.2.2.1, ()), (x.2.2.2.2.2.2.2.2.1, x.2.2.2.2.2.2.2.2.2, ()), ())) : ty_162_0))) (by rfl) (fun _ => rfl) (getE_ok (s := x_ref2_Widen_65_0_0_0) (un := fn_162_0) (by rfl) (fun _ => rfl)) (step := fun x => st_ref2_Widen_65_0_0 x.1 x.2.1 x.2.2.1 x.2.2.2.1 x.2.2.2.2.1 x.2.2.2.2.2.1 x.2.2.2.2.2.2.1 x.2.2.2.2.2.2.2.1 x.2.2.2.2.2.2.2.2.1 x.2.2.2.2.2.2.2.2.2) (fun x => rn_ref2_Widen_65_0_0 x.1 x.2.1 x.2.2.1 x.2.2.2.1 x.2.2.2.2.1 x.2.2.2.2.2.1 x.2.2.2.2.2.2.1 x.2.2.2.2.2.2.2.1 x.2.2.2.2.2.2.2.2.1 x.2.2.2.2.2.2.2.2.2) (fun _ _ e => ⟨_, e⟩) (altE_ok 2 x_ref2_Widen_65_0_0_0 fn_162_0) (VarOk.fail _ _))
noncomputable def lpI_ref2_Widen_65_0 (base : Nat) (T : Tm) : Prog (Nat × Tm) := .norm base (kp_ref2_Widen_65_0 0) T (q_ref2_Widen_65_0 base)
theorem sndI_ref2_Widen_65_0 : SoundC Try.prog 66 (.loop (bodyX 65 0)) lpI_ref2_Widen_65_0 := loopK_sound (cx := cx_ref2_Widen0) (cal := evF cx_ref2_Widen0 keeps 8) (kp := keeps 65) (tabOk_of tab_ok) (cmpsOk_of tab_ok cmps_ok) cal_ref2_Widen0 mixed (hl_of (g := 65) (b := 0) in_ref2_Widen0 (by kernel_rfl) (by kernel_rfl)) ok_ref2_Widen_65_0
noncomputable def lpL_ref2_Widen_65_0 : Nat → Tm → Prog (Nat × Tm) := lpI_ref2_Widen_65_0
theorem sndL_ref2_Widen_65_0 : SoundC Try.prog 66 (.loop (bodyX 65 0)) lpL_ref2_Widen_65_0 := sndI_ref2_Widen_65_0
noncomputable def lp_ref2_Widen : Nat → Nat → Option (Nat → Tm → Prog (Nat × Tm))
  | 65, 0 => some lpL_ref2_Widen_65_0
  | _, _ => none
noncomputable def cx_ref2_Widen : Ctx := { tab := tab, spec := sp_ref2_Widen, inl := inl, lps := lp_ref2_Widen, fuel := 40 }
theorem in_ref2_Widen : InlOk Try.prog cx_ref2_Widen := ⟨inl_ok, fun g fn c hg hb q hq p hp => by
  change lp_ref2_Widen g q.1 = some p at hp
  change inl g = some fn at hg
  generalize hq1 : q.1 = b at hp
  unfold lp_ref2_Widen at hp
  split at hp
  · cases hp; exact lps_case (inl := inl) hg hb hq hq1 (by kernel_rfl) (by kernel_rfl) sndL_ref2_Widen_65_0
  · cases hp⟩
theorem cal_ref2_Widen (g : Nat) : SoundA Try.prog g (evF cx_ref2_Widen keeps 8 g) := evF_sound (tabOk_of tab_ok) (cmpsOk_of tab_ok cmps_ok) mixed in_ref2_Widen hsp_ref2_Widen keeps 8 g
noncomputable def g_ref2_Widen (a0 : I) (a1 : I) (a2 : (List Int)) : Option I :=
  bif decide (a1.1 > a1.2) then some (a0.1, a0.2)
 else
 bif decide (a0.1 > a0.2) then some (a1.1, a1.2)
 else
 optC (G_ref2_Join (a0, a1, ())) none fun d5 ↦
 optC (L_ref2_Widen_65_0_0 (a2, -2147483648, 2147483647, 0, a0.1, a0.2, 0, 0, d5)) none fun d6 ↦
 bif decide (d6.2.2.2.2.2.2.1 < d6.2.2.1) then
 bif decide (d6.2.2.2.2.2.2.2 > d6.2.2.2.1) then some (d6.1, d6.2.1) else some (d6.1, d6.2.2.2.2.2.2.2)
 else
 bif decide (d6.2.2.2.2.2.2.2 > d6.2.2.2.1) then some (d6.2.2.2.2.2.2.1, d6.2.1)
 else some (d6.2.2.2.2.2.2.1, d6.2.2.2.2.2.2.2)
theorem raw_ref2_Widen (a0 : I) (a1 : I) (a2 : (List Int)) : evGX cx_ref2_Widen keeps 8 65 ash_ref2_Widen (.dat tI) ((a0, a1, a2, ()) : (I × (I × ((List Int) × Unit)))) = g_ref2_Widen a0 a1 a2 := by kernel_rfl
noncomputable def G_ref2_Widen (x : (I × (I × ((List Int) × Unit)))) : Option I := g_ref2_Widen x.1 x.2.1 x.2.2.1
noncomputable def con_ref2_Widen : List AV → Prog AV := conP true ash_ref2_Widen (.dat tI) G_ref2_Widen
theorem snd_ref2_Widen : SoundA Try.prog 65 con_ref2_Widen := conP_sound (cal_ref2_Widen 65) true (by rfl) (by rfl) (fun x r e => (evGX_eq _ _ _ _ _ _ _).trans ((raw_ref2_Widen x.1 x.2.1 x.2.2.1).trans e)) (.inl rfl)
end Go.Proofs.Ytbdcblpjemmipaa.Ex

namespace Go.Proofs.Ytbdcblpjemmipaa.Ex
set_option maxRecDepth 100000
set_option maxHeartbeats 2000000
set_option linter.unusedVariables false
set_option linter.unusedSimpArgs false
noncomputable def bd_ref2_Widen_65_0_0 (b0 : Int) (b0_1 : Int) (b1 : Int) (b1_1 : Int) (b2 : Int) (b2_1 : Int) (s2 : (List Int)) (i : Nat) (s8 : Int) (s9 : Int) (d : Int) : Option ((Int × Int) ⊕ (Int × Int × Int × Int × Int × Int × Int × Int)) :=
  bif decide (d ≤ b2) then
   bif decide (d > s8) then
   bif decide (d ≥ b2_1) then
   bif decide (d < s9) then
   some (Sum.inl (d, d))
 else some (Sum.inl (d, s9))
 else some (Sum.inl (d, s9))
 else bif decide (d ≥ b2_1) then
   bif decide (d < s9) then
   some (Sum.inl (s8, d))
 else some (Sum.inl (s8, s9))
 else some (Sum.inl (s8, s9))
 else bif decide (d ≥ b2_1) then
   bif decide (d < s9) then
   some (Sum.inl (s8, d))
 else some (Sum.inl (s8, s9))
 else some (Sum.inl (s8, s9))
noncomputable def fn_ref2_Widen_65_0_0 (b0 : Int) (b0_1 : Int) (b1 : Int) (b1_1 : Int) (b2 : Int) (b2_1 : Int) (s2 : (List Int)) (s8 : Int) (s9 : Int) : Option (Int × Int × Int × Int × Int × Int × Int × Int) :=
  some (s8, s9, b0, b0_1, b1, b1_1, b2, b2_1)
noncomputable abbrev rx_ref2_Widen_65_0_0 (b0 : Int) (b0_1 : Int) (b1 : Int) (b1_1 : Int) (b2 : Int) (b2_1 : Int) (s2 : (List Int)) (i : Nat) (s : (Int × Int)) : ((List Int) × Int × Int × Int × Int × Int × Int × Int × Int × Int) := (s2, s.1, s.2, (i : Int), b0, b0_1, b1, b1_1, b2, b2_1)
noncomputable def rv_ref2_Widen_65_0_0 (b0 : Int) (b0_1 : Int) (b1 : Int) (b1_1 : Int) (b2 : Int) (b2_1 : Int) (s2 : (List Int)) (s : (Int × Int)) : Option (Int × Int × Int × Int × Int × Int × Int × Int) := rangeO (fun i s d => bd_ref2_Widen_65_0_0 b0 b0_1 b1 b1_1 b2 b2_1 s2 i s.1 s.2 d) (fun s => fn_ref2_Widen_65_0_0 b0 b0_1 b1 b1_1 b2 b2_1 s2 s.1 s.2) 0 s2 s
theorem rg_ref2_Widen_65_0_0 (b0 : Int) (b0_1 : Int) (b1 : Int) (b1_1 : Int) (b2 : Int) (b2_1 : Int) (s2 : (List Int)) (s : (Int × Int)) (hl : s2.length < 9223372036854775807) : L_ref2_Widen_65_0_0 (s2, s.1, s.2, 0, b0, b0_1, b1, b1_1, b2, b2_1) = rv_ref2_Widen_65_0_0 b0 b0_1 b1 b1_1 b2 b2_1 s2 s := by
  unfold L_ref2_Widen_65_0_0 rv_ref2_Widen_65_0_0
  refine iterO_range0 s2 (rx_ref2_Widen_65_0_0 b0 b0_1 b1 b1_1 b2 b2_1 s2) _ _ ?_ ?_ s (by unfold FUEL; omega)
  · intro i s d hi hd
    have e1 : decide ((i : Int) < (s2.length : Int)) = true := decide_eq_true (by omega)
    have e2 : decide (0 ≤ (i : Int)) = true := decide_eq_true (by omega)
    have e3 : Int.toNat (i : Int) = i := Int.toNat_natCast i
    have e4 := wrap_next hi (Nat.le_of_lt hl)
    show st_ref2_Widen_65_0_0 (s2) (s.1) (s.2) ((i : Int)) (b0) (b0_1) (b1) (b1_1) (b2) (b2_1) = upd _ (bd_ref2_Widen_65_0_0 b0 b0_1 b1 b1_1 b2 b2_1 s2 i s.1 s.2 d)
    unfold st_ref2_Widen_65_0_0 bd_ref2_Widen_65_0_0
    simp only [e1, e2, e3, e4, hd, cond_true, cond_false, optC_some, upd_cond, upd_optC, upd_elim, upd_inl, upd_inr, upd_none]
  · intro s
    have e1 : decide ((s2.length : Int) < (s2.length : Int)) = false := decide_eq_false (by omega)
    show st_ref2_Widen_65_0_0 (s2) (s.1) (s.2) ((s2.length : Int)) (b0) (b0_1) (b1) (b1_1) (b2) (b2_1) = _
    unfold st_ref2_Widen_65_0_0 fn_ref2_Widen_65_0_0
    rw [e1]
    rfl
end Go.Proofs.Ytbdcblpjemmipaa.Ex

namespace Go.Proofs.Ytbdcblpjemmipaa.Ex
open Go.Proofs Go.Proofs.Ytbdcblpjemmipaa
set_option maxRecDepth 100000
set_option maxHeartbeats 2000000
set_option linter.unusedVariables false
set_option linter.unusedSimpArgs false
abbrev ty_164_0 : Type := (((List En) × ((Unit × (Unit × Unit)) × (Int × (Int × Unit)))) × (((List En) × Unit) × Unit))
abbrev fn_164_0 := (fun (x : (Int × (List En))) => (((x.1, ()), ((x.2, ()), ())) : ((Int × Unit) × (((List En) × Unit) × Unit))))
abbrev fn_164_1 := (fun (d : ty_164_0) => ((d.1.1, d.1.2.2.1, d.1.2.2.2.1, d.2.1.1) : ((List En) × Int × Int × (List En))))
abbrev fn_164_2 := (fun (x : (List En)) => ((((), ()), ((x, ()), ())) : ((Unit × Unit) × (((List En) × Unit) × Unit))))
def ash_tab_Leq : List Sh := [.dat (.sl tEn), .dat (.sl tEn)]
def kp_tab_Leq_95_0 : Nat → List Nat := fun c => bif c.beq 0 then [0, 1, 7, 8] else [4]
noncomputable def sp_tab_Leq : Nat → Option (List AV → Prog AV)
  | 60 => some (con_tab_find)
  | 61 => some (con_itv_Leq)
  | _ => none
theorem hsp_tab_Leq : ∀ g p, sp_tab_Leq g = some p → SoundA Try.prog g p := by
  intro g p h
  unfold sp_tab_Leq at h
  split at h
  · cases h; exact snd_tab_find
  · cases h; exact snd_itv_Leq
  · cases h
noncomputable def cx_tab_Leq0 : Ctx := { tab := tab, spec := sp_tab_Leq, inl := inl, lps := fun _ _ => none, fuel := 40 }
theorem in_tab_Leq0 : InlOk Try.prog cx_tab_Leq0 := ⟨inl_ok, fun _ _ _ _ _ _ _ _ h => nomatch h⟩
theorem cal_tab_Leq0 (g : Nat) : SoundA Try.prog g (evF cx_tab_Leq0 keeps 8 g) := evF_sound (tabOk_of tab_ok) (cmpsOk_of tab_ok cmps_ok) mixed in_tab_Leq0 hsp_tab_Leq keeps 8 g
noncomputable def F_tab_Leq_95_0 (base : Nat) : Tm → Prog (Nat × Tm) := evC cx_tab_Leq0 (evF cx_tab_Leq0 keeps 8) ⟨95, 19, keeps 95, base⟩ 0 (bodyX 95 0)
def s_tab_Leq_95_0_0 : StS := ⟨[(0, .sl tEn), (1, .clo 59 [] [.ptr 0 0]), (7, .int .i64), (8, .int .i64)], [(0, .box [.sl tEn])], 1⟩
def x_tab_Leq_95_0_0_0 : StS := ⟨[(4, .undef)], [(0, .box [.sl tEn])], 1⟩
def x_tab_Leq_95_0_0_1 : StS := ⟨[(4, .int .i64)], [(0, .box [.sl tEn])], 1⟩
noncomputable def st_tab_Leq_95_0_0 (s0 : (List En)) (s7 : Int) (s8 : Int) (b0 : (List En)) : Option (((List En) × Int × Int × (List En)) ⊕ ((List En) ⊕ (Int × (List En)))) :=
  bif decide (s8 < s7) then
 bif decide (0 ≤ s8) then
 optC s0[s8.toNat]? none fun d6 ↦
 optC (G_tab_find (b0, d6, ())) none fun d7 ↦
 bif !d7.2.1 then some (Sum.inr (Sum.inr (s8, b0)))
 else
 bif decide (0 ≤ d7.1) then
 optC b0[Int.toNat d7.1]? none fun d8 ↦
 optC (G_itv_Leq (d6.2.2.2.2, d8.2.2.2.2, ())) none fun d9 ↦
 bif !d9 then some (Sum.inr (Sum.inr (s8, b0))) else some (Sum.inl (s0, s7, Go.IntKind.i64.wrap (s8 + 1), b0))
 else none
 else none
 else some (Sum.inr (Sum.inl b0))
theorem rn_tab_Leq_95_0_0 (s0 : (List En)) (s7 : Int) (s8 : Int) (b0 : (List En)) : rdX cx_tab_Leq0 keeps 8 ⟨95, 19, keeps 95, 1⟩ 0 (bodyX 95 0) 1 kp_tab_Leq_95_0 (sT s_tab_Leq_95_0_0 ((s0, ((), ((), ())), s7, s8, ()), ((b0, ()), ()))) (sH s_tab_Leq_95_0_0 ((s0, ((), ((), ())), s7, s8, ()), ((b0, ()), ()))) (rdO (fun T h => (rdS s_tab_Leq_95_0_0 T h).map fn_164_1) (getOr (getE 2 x_tab_Leq_95_0_0_0 (fun (d : ((Unit × Unit) × (((List En) × Unit) × Unit))) => ((d.2.1.1) : (List En)))) (getE 1 x_tab_Leq_95_0_0_1 (fun (d : ((Int × Unit) × (((List En) × Unit) × Unit))) => ((d.1.1, d.2.1.1) : (Int × (List En))))))) = st_tab_Leq_95_0_0 s0 s7 s8 b0 := by kernel_rfl
noncomputable def L_tab_Leq_95_0_0 (x : ((List En) × Int × Int × (List En))) : Option ((List En) ⊕ (Int × (List En))) := iterO (fun x => st_tab_Leq_95_0_0 x.1 x.2.1 x.2.2.1 x.2.2.2) FUEL x
noncomputable def q_tab_Leq_95_0 : Nat → Tm → Prog (Nat × Tm) := (varP 1 (fun T h => (rdS s_tab_Leq_95_0_0 T h).map fn_164_1) L_tab_Leq_95_0_0 (fun y => .alt y (altE 2 x_tab_Leq_95_0_0_0 fn_164_2) (altE 1 x_tab_Leq_95_0_0_1 fn_164_0)) (fun _ _ => .fail))
theorem ok_tab_Leq_95_0 : VarOk kp_tab_Leq_95_0 F_tab_Leq_95_0 q_tab_Leq_95_0 := (varX_ok (s := s_tab_Leq_95_0_0) (un := (fun (x : ((List En) × Int × Int × (List En))) => (((x.1, ((), ((), ())), x.2.1, x.2.2.1, ()), ((x.2.2.2, ()), ())) : ty_164_0))) (by rfl) (fun _ => rfl) (getOr_ok (getE_ok (s := x_tab_Leq_95_0_0_0) (un := fn_164_2) (by rfl) (fun _ => rfl)) (getE_ok (s := x_tab_Leq_95_0_0_1) (un := fn_164_0) (by rfl) (fun _ => rfl))) (step := fun x => st_tab_Leq_95_0_0 x.1 x.2.1 x.2.2.1 x.2.2.2) (fun x => rn_tab_Leq_95_0_0 x.1 x.2.1 x.2.2.1 x.2.2.2) (fun _ _ e => ⟨_, e⟩) (altOr_ok (altE_ok 2 x_tab_Leq_95_0_0_0 fn_164_2) (altE_ok 1 x_tab_Leq_95_0_0_1 fn_164_0)) (VarOk.fail _ _))
noncomputable def lpI_tab_Leq_95_0 (base : Nat) (T : Tm) : Prog (Nat × Tm) := .norm base (kp_tab_Leq_95_0 0) T (q_tab_Leq_95_0 base)
theorem sndI_tab_Leq_95_0 : SoundC Try.prog 19 (.loop (bodyX 95 0)) lpI_tab_Leq_95_0 := loopK_sound (cx := cx_tab_Leq0) (cal := evF cx_tab_Leq0 keeps 8) (kp := keeps 95) (tabOk_of tab_ok) (cmpsOk_of tab_ok cmps_ok) cal_tab_Leq0 mixed (hl_of (g := 95) (b := 0) in_tab_Leq0 (by kernel_rfl) (by kernel_rfl)) ok_tab_Leq_95_0
noncomputable def lpL_tab_Leq_95_0 : Nat → Tm → Prog (Nat × Tm) := lpI_tab_Leq_95_0
theorem sndL_tab_Leq_95_0 : SoundC Try.prog 19 (.loop (bodyX 95 0)) lpL_tab_Leq_95_0 := sndI_tab_Leq_95_0
noncomputable def lp_tab_Leq : Nat → Nat → Option (Nat → Tm → Prog (Nat × Tm))
  | 95, 0 => some lpL_tab_Leq_95_0
  | _, _ => none
noncomputable def cx_tab_Leq : Ctx := { tab := tab, spec := sp_tab_Leq, inl := inl, lps := lp_tab_Leq, fuel := 40 }
theorem in_tab_Leq : InlOk Try.prog cx_tab_Leq := ⟨inl_ok, fun g fn c hg hb q hq p hp => by
  change lp_tab_Leq g q.1 = some p at hp
  change inl g = some fn at hg
  generalize hq1 : q.1 = b at hp
  unfold lp_tab_Leq at hp
  split at hp
  · cases hp; exact lps_case (inl := inl) hg hb hq hq1 (by kernel_rfl) (by kernel_rfl) sndL_tab_Leq_95_0
  · cases hp⟩
theorem cal_tab_Leq (g : Nat) : SoundA Try.prog g (evF cx_tab_Leq keeps 8 g) := evF_sound (tabOk_of tab_ok) (cmpsOk_of tab_ok cmps_ok) mixed in_tab_Leq hsp_tab_Leq keeps 8 g
noncomputable def g_tab_Leq (a0 : (List En)) (a1 : (List En)) : Option Bool :=
  optC (L_tab_Leq_95_0_0 (a0, (↑a0.length : Int), 0, a1)) none fun d4 ↦ Sum.elim (fun e5 ↦ some !decide (-1 ≥ 0)) (fun e5 ↦ some !decide (e5.1 ≥ 0)) d4
theorem raw_tab_Leq (a0 : (List En)) (a1 : (List En)) : evGX cx_tab_Leq keeps 8 23 ash_tab_Leq (.dat .bool) ((a0, a1, ()) : ((List En) × ((List En) × Unit))) = g_tab_Leq a0 a1 := by kernel_rfl
noncomputable def G_tab_Leq (x : ((List En) × ((List En) × Unit))) : Option Bool := g_tab_Leq x.1 x.2.1
noncomputable def con_tab_Leq : List AV → Prog AV := conP false ash_tab_Leq (.dat .bool) G_tab_Leq
theorem snd_tab_Leq : SoundA Try.prog 23 con_tab_Leq := conP_sound (cal_tab_Leq 23) false (by rfl) (by rfl) (fun x r e => (evGX_eq _ _ _ _ _ _ _).trans ((raw_tab_Leq x.1 x.2.1).trans e)) (.inr fun _ => rfl)
end Go.Proofs.Ytbdcblpjemmipaa.Ex

namespace Go.Proofs.Ytbdcblpjemmipaa.Ex
set_option maxRecDepth 100000
set_option maxHeartbeats 2000000
set_option linter.unusedVariables false
set_option linter.unusedSimpArgs false
noncomputable def bd_tab_Leq_95_0_0 (b0 : (List En)) (s0 : (List En)) (i : Nat)  (d : En) : Option (Unit ⊕ ((List En) ⊕ (Int × (List En)))) :=
  optC (G_tab_find (b0, d, ())) (none) fun d7 ↦
   bif !d7.2.1 then
   some (Sum.inr (Sum.inr ((i : Int), b0)))
 else bif decide (0 ≤ d7.1) then
   optC b0[Int.toNat d7.1]? (none) fun d8 ↦
   optC (G_itv_Leq (d.2.2.2.2, d8.2.2.2.2, ())) (none) fun d9 ↦
   bif !d9 then
   some (Sum.inr (Sum.inr ((i : Int), b0)))
 else some (Sum.inl ())
 else none
noncomputable def fn_tab_Leq_95_0_0 (b0 : (List En)) (s0 : (List En))  : Option ((List En) ⊕ (Int × (List En))) :=
  some (Sum.inl b0)
noncomputable abbrev rx_tab_Leq_95_0_0 (b0 : (List En)) (s0 : (List En)) (i : Nat) (s : Unit) : ((List En) × Int × Int × (List En)) := (s0, (s0.length : Int), (i : Int), b0)
noncomputable def rv_tab_Leq_95_0_0 (b0 : (List En)) (s0 : (List En)) (s : Unit) : Option ((List En) ⊕ (Int × (List En))) := rangeO (fun i s d => bd_tab_Leq_95_0_0 b0 s0 i  d) (fun s => fn_tab_Leq_95_0_0 b0 s0 ) 0 s0 s
theorem rg_tab_Leq_95_0_0 (b0 : (List En)) (s0 : (List En)) (s : Unit) (hl : s0.length < 9223372036854775807) : L_tab_Leq_95_0_0 (s0, (s0.length : Int), 0, b0) = rv_tab_Leq_95_0_0 b0 s0 s := by
  unfold L_tab_Leq_95_0_0 rv_tab_Leq_95_0_0
  refine iterO_range0 s0 (rx_tab_Leq_95_0_0 b0 s0) _ _ ?_ ?_ s (by unfold FUEL; omega)
  · intro i s d hi hd
    have e1 : decide ((i : Int) < (s0.length : Int)) = true := decide_eq_true (by omega)
    have e2 : decide (0 ≤ (i : Int)) = true := decide_eq_true (by omega)
    have e3 : Int.toNat (i : Int) = i := Int.toNat_natCast i
    have e4 := wrap_next hi (Nat.le_of_lt hl)
    show st_tab_Leq_95_0_0 (s0) ((s0.length : Int)) ((i : Int)) (b0) = upd _ (bd_tab_Leq_95_0_0 b0 s0 i  d)
    unfold st_tab_Leq_95_0_0 bd_tab_Leq_95_0_0
    simp only [e1, e2, e3, e4, hd, cond_true, cond_false, optC_some, upd_cond, upd_optC, upd_elim, upd_inl, upd_inr, upd_none]
  · intro s
    have e1 : decide ((s0.length : Int) < (s0.length : Int)) = false := decide_eq_false (by omega)
    show st_tab_Leq_95_0_0 (s0) ((s0.length : Int)) ((s0.length : Int)) (b0) = _
    unfold st_tab_Leq_95_0_0 fn_tab_Leq_95_0_0
    rw [e1]
    rfl
end Go.Proofs.Ytbdcblpjemmipaa.Ex

namespace Go.Proofs.Ytbdcblpjemmipaa.Ex
open Go.Proofs Go.Proofs.Ytbdcblpjemmipaa
set_option maxRecDepth 100000
set_option maxHeartbeats 2000000
set_option linter.unusedVariables false
set_option linter.unusedSimpArgs false
abbrev fn_166_0 := (fun (d : (((List En) × ((List En) × (Int × Unit))) × Unit)) => ((d.1.1, d.1.2.1, d.1.2.2.1) : ((List En) × (List En) × Int)))
def ash_ref12_Leq : List Sh := [.dat (.sl tEn), .dat (.sl tEn)]
def kp_ref12_Leq_30_0 : Nat → List Nat := fun c => bif c.beq 0 then [0, 1, 5] else [4]
noncomputable def sp_ref12_Leq : Nat → Option (List AV → Prog AV)
  | 64 => some (con_ref12_place)
  | 16 => some (con_ref2_Leq)
  | _ => none
theorem hsp_ref12_Leq : ∀ g p, sp_ref12_Leq g = some p → SoundA Try.prog g p := by
  intro g p h
  unfold sp_ref12_Leq at h
  split at h
  · cases h; exact snd_ref12_place
  · cases h; exact snd_ref2_Leq
  · cases h
noncomputable def cx_ref12_Leq0 : Ctx := { tab := tab, spec := sp_ref12_Leq, inl := inl, lps := fun _ _ => none, fuel := 40 }
theorem in_ref12_Leq0 : InlOk Try.prog cx_ref12_Leq0 := ⟨inl_ok, fun _ _ _ _ _ _ _ _ h => nomatch h⟩
theorem cal_ref12_Leq0 (g : Nat) : SoundA Try.prog g (evF cx_ref12_Leq0 keeps 8 g) := evF_sound (tabOk_of tab_ok) (cmpsOk_of tab_ok cmps_ok) mixed in_ref12_Leq0 hsp_ref12_Leq keeps 8 g
noncomputable def F_ref12_Leq_30_0 (base : Nat) : Tm → Prog (Nat × Tm) := evC cx_ref12_Leq0 (evF cx_ref12_Leq0 keeps 8) ⟨30, 39, keeps 30, base⟩ 0 (bodyX 30 0)
def s_ref12_Leq_30_0_0 : StS := ⟨[(0, .sl tEn), (1, .sl tEn), (5, .int .i64)], [], 0⟩
def x_ref12_Leq_30_0_0_0 : StS := ⟨[(4, .undef)], [], 0⟩
def x_ref12_Leq_30_0_0_1 : StS := ⟨[(4, .bool)], [], 0⟩
noncomputable def st_ref12_Leq_30_0_0 (s0 : (List En)) (s1 : (List En)) (s5 : Int) : Option (((List En) × (List En) × Int) ⊕ (Unit ⊕ Bool)) :=
  bif decide (s5 < (↑s0.length : Int)) then
 bif decide (0 ≤ s5) then
 optC s0[s5.toNat]? none fun d5 ↦
 optC (G_ref12_place (s1, d5, ())) none fun d6 ↦
 bif !d6.2.1 then some (Sum.inr (Sum.inr false))
 else
 bif decide (0 ≤ s5) then
 optC s0[s5.toNat]? none fun d7 ↦
 bif decide (0 ≤ d6.1) then
 optC s1[Int.toNat d6.1]? none fun d8 ↦
 optC (G_ref2_Leq (d7.2.2.2.2, d8.2.2.2.2, ())) none fun d9 ↦
 bif !d9 then some (Sum.inr (Sum.inr false)) else some (Sum.inl (s0, s1, Go.IntKind.i64.wrap (s5 + 1)))
 else none
 else none
 else none
 else some (Sum.inr (Sum.inl PUnit.unit))
theorem rn_ref12_Leq_30_0_0 (s0 : (List En)) (s1 : (List En)) (s5 : Int) : rdX cx_ref12_Leq0 keeps 8 ⟨30, 39, keeps 30, 0⟩ 0 (bodyX 30 0) 0 kp_ref12_Leq_30_0 (sT s_ref12_Leq_30_0_0 ((s0, s1, s5, ()), ())) (sH s_ref12_Leq_30_0_0 ((s0, s1, s5, ()), ())) (rdO (fun T h => (rdS s_ref12_Leq_30_0_0 T h).map fn_166_0) (getOr (getE 2 x_ref12_Leq_30_0_0_0 (fun (d : ((Unit × Unit) × Unit)) => (() : Unit))) (getE 1 x_ref12_Leq_30_0_0_1 (fun (d : ((Bool × Unit) × Unit)) => ((d.1.1) : Bool))))) = st_ref12_Leq_30_0_0 s0 s1 s5 := by kernel_rfl
noncomputable def L_ref12_Leq_30_0_0 (x : ((List En) × (List En) × Int)) : Option (Unit ⊕ Bool) := iterO (fun x => st_ref12_Leq_30_0_0 x.1 x.2.1 x.2.2) FUEL x
noncomputable def q_ref12_Leq_30_0 : Nat → Tm → Prog (Nat × Tm) := (varP 0 (fun T h => (rdS s_ref12_Leq_30_0_0 T h).map fn_166_0) L_ref12_Leq_30_0_0 (fun y => .alt y (altE 2 x_ref12_Leq_30_0_0_0 (fun (x : Unit) => ((((), ()), ()) : ((Unit × Unit) × Unit)))) (altE 1 x_ref12_Leq_30_0_0_1 (fun (x : Bool) => (((x, ()), ()) : ((Bool × Unit) × Unit))))) (fun _ _ => .fail))
theorem ok_ref12_Leq_30_0 : VarOk kp_ref12_Leq_30_0 F_ref12_Leq_30_0 q_ref12_Leq_30_0 := (varX_ok (s := s_ref12_Leq_30_0_0) (un := (fun (x : ((List En) × (List En) × Int)) => (((x.1, x.2.1, x.2.2, ()), ()) : (((List En) × ((List En) × (Int × Unit))) × Unit)))) (by rfl) (fun _ => rfl) (getOr_ok (getE_ok (s := x_ref12_Leq_30_0_0_0) (un := (fun (x : Unit) => ((((), ()), ()) : ((Unit × Unit) × Unit)))) (by rfl) (fun _ => rfl)) (getE_ok (s := x_ref12_Leq_30_0_0_1) (un := (fun (x : Bool) => (((x, ()), ()) : ((Bool × Unit) × Unit)))) (by rfl) (fun _ => rfl))) (step := fun x => st_ref12_Leq_30_0_0 x.1 x.2.1 x.2.2) (fun x => rn_ref12_Leq_30_0_0 x.1 x.2.1 x.2.2) (fun _ _ e => ⟨_, e⟩) (altOr_ok (altE_ok 2 x_ref12_Leq_30_0_0_0 (fun (x : Unit) => ((((), ()), ()) : ((Unit × Unit) × Unit)))) (altE_ok 1 x_ref12_Leq_30_0_0_1 (fun (x : Bool) => (((x, ()), ()) : ((Bool × Unit) × Unit))))) (VarOk.fail _ _))
noncomputable def lpI_ref12_Leq_30_0 (base : Nat) (T : Tm) : Prog (Nat × Tm) := .norm base (kp_ref12_Leq_30_0 0) T (q_ref12_Leq_30_0 base)
theorem sndI_ref12_Leq_30_0 : SoundC Try.prog 39 (.loop (bodyX 30 0)) lpI_ref12_Leq_30_0 := loopK_sound (cx := cx_ref12_Leq0) (cal := evF cx_ref12_Leq0 keeps 8) (kp := keeps 30) (tabOk_of tab_ok) (cmpsOk_of tab_ok cmps_ok) cal_ref12_Leq0 mixed (hl_of (g := 30) (b := 0) in_ref12_Leq0 (by kernel_rfl) (by kernel_rfl)) ok_ref12_Leq_30_0
noncomputable def lpL_ref12_Leq_30_0 : Nat → Tm → Prog (Nat × Tm) := lpI_ref12_Leq_30_0
theorem sndL_ref12_Leq_30_0 : SoundC Try.prog 39 (.loop (bodyX 30 0)) lpL_ref12_Leq_30_0 := sndI_ref12_Leq_30_0
noncomputable def lp_ref12_Leq : Nat → Nat → Option (Nat → Tm → Prog (Nat × Tm))
  | 30, 0 => some lpL_ref12_Leq_30_0
  | _, _ => none
noncomputable def cx_ref12_Leq : Ctx := { tab := tab, spec := sp_ref12_Leq, inl := inl, lps := lp_ref12_Leq, fuel := 40 }
theorem in_ref12_Leq : InlOk Try.prog cx_ref12_Leq := ⟨inl_ok, fun g fn c hg hb q hq p hp => by
  change lp_ref12_Leq g q.1 = some p at hp
  change inl g = some fn at hg
  generalize hq1 : q.1 = b at hp
  unfold lp_ref12_Leq at hp
  split at hp
  · cases hp; exact lps_case (inl := inl) hg hb hq hq1 (by kernel_rfl) (by kernel_rfl) sndL_ref12_Leq_30_0
  · cases hp⟩
theorem cal_ref12_Leq (g : Nat) : SoundA Try.prog g (evF cx_ref12_Leq keeps 8 g) := evF_sound (tabOk_of tab_ok) (cmpsOk_of tab_ok cmps_ok) mixed in_ref12_Leq hsp_ref12_Leq keeps 8 g
noncomputable def g_ref12_Leq (a0 : (List En)) (a1 : (List En)) : Option Bool :=
  optC (L_ref12_Leq_30_0_0 (a0, a1, 0)) none fun d4 ↦ Sum.elim (fun e5 ↦ some true) (fun e5 ↦ some e5) d4
theorem raw_ref12_Leq (a0 : (List En)) (a1 : (List En)) : evGX cx_ref12_Leq keeps 8 30 ash_ref12_Leq (.dat .bool) ((a0, a1, ()) : ((List En) × ((List En) × Unit))) = g_ref12_Leq a0 a1 := by kernel_rfl
noncomputable def G_ref12_Leq (x : ((List En) × ((List En) × Unit))) : Option Bool := g_ref12_Leq x.1 x.2.1
noncomputable def con_ref12_Leq : List AV → Prog AV := conP false ash_ref12_Leq (.dat .bool) G_ref12_Leq
theorem snd_ref12_Leq : SoundA Try.prog 30 con_ref12_Leq := conP_sound (cal_ref12_Leq 30) false (by rfl) (by rfl) (fun x r e => (evGX_eq _ _ _ _ _ _ _).trans ((raw_ref12_Leq x.1 x.2.1).trans e)) (.inr fun _ => rfl)
end Go.Proofs.Ytbdcblpjemmipaa.Ex

namespace Go.Proofs.Ytbdcblpjemmipaa.Ex
set_option maxRecDepth 100000
set_option maxHeartbeats 2000000
set_option linter.unusedVariables false
set_option linter.unusedSimpArgs false
noncomputable def bd_ref12_Leq_30_0_0 (s1 : (List En)) (s0 : (List En)) (i : Nat)  (d : En) : Option (Unit ⊕ (Unit ⊕ Bool)) :=
  optC (G_ref12_place (s1, d, ())) (none) fun d6 ↦
   bif !d6.2.1 then
   some (Sum.inr (Sum.inr false))
 else bif decide (0 ≤ d6.1) then
   optC s1[Int.toNat d6.1]? (none) fun d8 ↦
   optC (G_ref2_Leq (d.2.2.2.2, d8.2.2.2.2, ())) (none) fun d9 ↦
   bif !d9 then
   some (Sum.inr (Sum.inr false))
 else some (Sum.inl ())
 else none
noncomputable def fn_ref12_Leq_30_0_0 (s1 : (List En)) (s0 : (List En))  : Option (Unit ⊕ Bool) :=
  some (Sum.inl PUnit.unit)
noncomputable abbrev rx_ref12_Leq_30_0_0 (s1 : (List En)) (s0 : (List En)) (i : Nat) (s : Unit) : ((List En) × (List En) × Int) := (s0, s1, (i : Int))
noncomputable def rv_ref12_Leq_30_0_0 (s1 : (List En)) (s0 : (List En)) (s : Unit) : Option (Unit ⊕ Bool) := rangeO (fun i s d => bd_ref12_Leq_30_0_0 s1 s0 i  d) (fun s => fn_ref12_Leq_30_0_0 s1 s0 ) 0 s0 s
theorem rg_ref12_Leq_30_0_0 (s1 : (List En)) (s0 : (List En)) (s : Unit) (hl : s0.length < 9223372036854775807) : L_ref12_Leq_30_0_0 (s0, s1, 0) = rv_ref12_Leq_30_0_0 s1 s0 s := by
  unfold L_ref12_Leq_30_0_0 rv_ref12_Leq_30_0_0
  refine iterO_range0 s0 (rx_ref12_Leq_30_0_0 s1 s0) _ _ ?_ ?_ s (by unfold FUEL; omega)
  · intro i s d hi hd
    have e1 : decide ((i : Int) < (s0.length : Int)) = true := decide_eq_true (by omega)
    have e2 : decide (0 ≤ (i : Int)) = true := decide_eq_true (by omega)
    have e3 : Int.toNat (i : Int) = i := Int.toNat_natCast i
    have e4 := wrap_next hi (Nat.le_of_lt hl)
    show st_ref12_Leq_30_0_0 (s0) (s1) ((i : Int)) = upd _ (bd_ref12_Leq_30_0_0 s1 s0 i  d)
    unfold st_ref12_Leq_30_0_0 bd_ref12_Leq_30_0_0
    simp only [e1, e2, e3, e4, hd, cond_true, cond_false, optC_some, upd_cond, upd_optC, upd_elim, upd_inl, upd_inr, upd_none]
  · intro s
    have e1 : decide ((s0.length : Int) < (s0.length : Int)) = false := decide_eq_false (by omega)
    show st_ref12_Leq_30_0_0 (s0) (s1) ((s0.length : Int)) = _
    unfold st_ref12_Leq_30_0_0 fn_ref12_Leq_30_0_0
    rw [e1]
    rfl
end Go.Proofs.Ytbdcblpjemmipaa.Ex

namespace Go.Proofs.Ytbdcblpjemmipaa.Ex
open Go.Proofs Go.Proofs.Ytbdcblpjemmipaa
set_option maxRecDepth 100000
set_option maxHeartbeats 2000000
set_option linter.unusedVariables false
set_option linter.unusedSimpArgs false
abbrev fn_168_0 := (fun (d : (((List En) × ((List En) × (Int × (Int × Unit)))) × Unit)) => ((d.1.1, d.1.2.1, d.1.2.2.1, d.1.2.2.2.1) : ((List En) × (List En) × Int × Int)))
def ash_slices_Equal_Entry : List Sh := [.dat (.sl tEn), .dat (.sl tEn)]
def kp_slices_Equal_Entry_57_0 : Nat → List Nat := fun c => bif c.beq 0 then [0, 1, 12, 13] else [4]
noncomputable def sp_slices_Equal_Entry : Nat → Option (List AV → Prog AV)
  | _ => none
theorem hsp_slices_Equal_Entry : ∀ g p, sp_slices_Equal_Entry g = some p → SoundA Try.prog g p := by
  intro g p h
  unfold sp_slices_Equal_Entry at h
  split at h
  · cases h
noncomputable def cx_slices_Equal_Entry0 : Ctx := { tab := tab, spec := sp_slices_Equal_Entry, inl := inl, lps := fun _ _ => none, fuel := 40 }
theorem in_slices_Equal_Entry0 : InlOk Try.prog cx_slices_Equal_Entry0 := ⟨inl_ok, fun _ _ _ _ _ _ _ _ h => nomatch h⟩
theorem cal_slices_Equal_Entry0 (g : Nat) : SoundA Try.prog g (evF cx_slices_Equal_Entry0 keeps 8 g) := evF_sound (tabOk_of tab_ok) (cmpsOk_of tab_ok cmps_ok) mixed in_slices_Equal_Entry0 hsp_slices_Equal_Entry keeps 8 g
noncomputable def F_slices_Equal_Entry_57_0 (base : Nat) : Tm → Prog (Nat × Tm) := evC cx_slices_Equal_Entry0 (evF cx_slices_Equal_Entry0 keeps 8) ⟨57, 26, keeps 57, base⟩ 0 (bodyX 57 0)
def s_slices_Equal_Entry_57_0_0 : StS := ⟨[(0, .sl tEn), (1, .sl tEn), (12, .int .i64), (13, .int .i64)], [], 0⟩
def x_slices_Equal_Entry_57_0_0_0 : StS := ⟨[(4, .undef)], [], 0⟩
def x_slices_Equal_Entry_57_0_0_1 : StS := ⟨[(4, .bool)], [], 0⟩
noncomputable def st_slices_Equal_Entry_57_0_0 (s0 : (List En)) (s1 : (List En)) (s12 : Int) (s13 : Int) : Option (((List En) × (List En) × Int × Int) ⊕ (Unit ⊕ Bool)) :=
  bif decide (s13 < s12) then
 bif decide (0 ≤ s13) then
 optC s0[s13.toNat]? none fun d6 ↦
 bif decide (0 ≤ s13) then
 optC s1[s13.toNat]? none fun d7 ↦
 bif
 !(d6.1 == d7.1 &&
 (d6.2.1 == d7.2.1 &&
 (d6.2.2.1 == d7.2.2.1 &&
 (d6.2.2.2.1 == d7.2.2.2.1 && (d6.2.2.2.2.1 == d7.2.2.2.2.1 && d6.2.2.2.2.2 == d7.2.2.2.2.2))))) then
 some (Sum.inr (Sum.inr false))
 else some (Sum.inl (s0, s1, s12, Go.IntKind.i64.wrap (s13 + 1)))
 else none
 else none
 else some (Sum.inr (Sum.inl PUnit.unit))
theorem rn_slices_Equal_Entry_57_0_0 (s0 : (List En)) (s1 : (List En)) (s12 : Int) (s13 : Int) : rdX cx_slices_Equal_Entry0 keeps 8 ⟨57, 26, keeps 57, 0⟩ 0 (bodyX 57 0) 0 kp_slices_Equal_Entry_57_0 (sT s_slices_Equal_Entry_57_0_0 ((s0, s1, s12, s13, ()), ())) (sH s_slices_Equal_Entry_57_0_0 ((s0, s1, s12, s13, ()), ())) (rdO (fun T h => (rdS s_slices_Equal_Entry_57_0_0 T h).map fn_168_0) (getOr (getE 2 x_slices_Equal_Entry_57_0_0_0 (fun (d : ((Unit × Unit) × Unit)) => (() : Unit))) (getE 1 x_slices_Equal_Entry_57_0_0_1 (fun (d : ((Bool × Unit) × Unit)) => ((d.1.1) : Bool))))) = st_slices_Equal_Entry_57_0_0 s0 s1 s12 s13 := by kernel_rfl
noncomputable def L_slices_Equal_Entry_57_0_0 (x : ((List En) × (List En) × Int × Int)) : Option (Unit ⊕ Bool) := iterO (fun x => st_slices_Equal_Entry_57_0_0 x.1 x.2.1 x.2.2.1 x.2.2.2) FUEL x
noncomputable def q_slices_Equal_Entry_57_0 : Nat → Tm → Prog (Nat × Tm) := (varP 0 (fun T h => (rdS s_slices_Equal_Entry_57_0_0 T h).map fn_168_0) L_slices_Equal_Entry_57_0_0 (fun y => .alt y (altE 2 x_slices_Equal_Entry_57_0_0_0 (fun (x : Unit) => ((((), ()), ()) : ((Unit × Unit) × Unit)))) (altE 1 x_slices_Equal_Entry_57_0_0_1 (fun (x : Bool) => (((x, ()), ()) : ((Bool × Unit) × Unit))))) (fun _ _ => .fail))
theorem ok_slices_Equal_Entry_57_0 : VarOk kp_slices_Equal_Entry_57_0 F_slices_Equal_Entry_57_0 q_slices_Equal_Entry_57_0 := (varX_ok (s := s_slices_Equal_Entry_57_0_0) (un := (fun (x : ((List En) × (List En) × Int × Int)) => (((x.1, x.2.1, x.2.2.1, x.2.2.2, ()), ()) : (((List En) × ((List En) × (Int × (Int × Unit)))) × Unit)))) (by rfl) (fun _ => rfl) (getOr_ok (getE_ok (s := x_slices_Equal_Entry_57_0_0_0) (un := (fun (x : Unit) => ((((), ()), ()) : ((Unit × Unit) × Unit)))) (by rfl) (fun _ => rfl)) (getE_ok (s := x_slices_Equal_Entry_57_0_0_1) (un := (fun (x : Bool) => (((x, ()), ()) : ((Bool × Unit) × Unit)))) (by rfl) (fun _ => rfl))) (step := fun x => st_slices_Equal_Entry_57_0_0 x.1 x.2.1 x.2.2.1 x.2.2.2) (fun x => rn_slices_Equal_Entry_57_0_0 x.1 x.2.1 x.2.2.1 x.2.2.2) (fun _ _ e => ⟨_, e⟩) (altOr_ok (altE_ok 2 x_slices_Equal_Entry_57_0_0_0 (fun (x : Unit) => ((((), ()), ()) : ((Unit × Unit) × Unit)))) (altE_ok 1 x_slices_Equal_Entry_57_0_0_1 (fun (x : Bool) => (((x, ()), ()) : ((Bool × Unit) × Unit))))) (VarOk.fail _ _))
noncomputable def lpI_slices_Equal_Entry_57_0 (base : Nat) (T : Tm) : Prog (Nat × Tm) := .norm base (kp_slices_Equal_Entry_57_0 0) T (q_slices_Equal_Entry_57_0 base)
theorem sndI_slices_Equal_Entry_57_0 : SoundC Try.prog 26 (.loop (bodyX 57 0)) lpI_slices_Equal_Entry_57_0 := loopK_sound (cx := cx_slices_Equal_Entry0) (cal := evF cx_slices_Equal_Entry0 keeps 8) (kp := keeps 57) (tabOk_of tab_ok) (cmpsOk_of tab_ok cmps_ok) cal_slices_Equal_Entry0 mixed (hl_of (g := 57) (b := 0) in_slices_Equal_Entry0 (by kernel_rfl) (by kernel_rfl)) ok_slices_Equal_Entry_57_0
noncomputable def lpL_slices_Equal_Entry_57_0 : Nat → Tm → Prog (Nat × Tm) := lpI_slices_Equal_Entry_57_0
theorem sndL_slices_Equal_Entry_57_0 : SoundC Try.prog 26 (.loop (bodyX 57 0)) lpL_slices_Equal_Entry_57_0 := sndI_slices_Equal_Entry_57_0
noncomputable def lp_slices_Equal_Entry : Nat → Nat → Option (Nat → Tm → Prog (Nat × Tm))
  | 57, 0 => some lpL_slices_Equal_Entry_57_0
  | _, _ => none
noncomputable def cx_slices_Equal_Entry : Ctx := { tab := tab, spec := sp_slices_Equal_Entry, inl := inl, lps := lp_slices_Equal_Entry, fuel := 40 }
theorem in_slices_Equal_Entry : InlOk Try.prog cx_slices_Equal_Entry := ⟨inl_ok, fun g fn c hg hb q hq p hp => by
  change lp_slices_Equal_Entry g q.1 = some p at hp
  change inl g = some fn at hg
  generalize hq1 : q.1 = b at hp
  unfold lp_slices_Equal_Entry at hp
  split at hp
  · cases hp; exact lps_case (inl := inl) hg hb hq hq1 (by kernel_rfl) (by kernel_rfl) sndL_slices_Equal_Entry_57_0
  · cases hp⟩
theorem cal_slices_Equal_Entry (g : Nat) : SoundA Try.prog g (evF cx_slices_Equal_Entry keeps 8 g) := evF_sound (tabOk_of tab_ok) (cmpsOk_of tab_ok cmps_ok) mixed in_slices_Equal_Entry hsp_slices_Equal_Entry keeps 8 g
noncomputable def g_slices_Equal_Entry (a0 : (List En)) (a1 : (List En)) : Option Bool :=
  bif (↑a0.length : Int) != (↑a1.length : Int) then some false
 else optC (L_slices_Equal_Entry_57_0_0 (a0, a1, (↑a0.length : Int), 0)) none fun d4 ↦ Sum.elim (fun e5 ↦ some true) (fun e5 ↦ some e5) d4
theorem raw_slices_Equal_Entry (a0 : (List En)) (a1 : (List En)) : evGX cx_slices_Equal_Entry keeps 8 57 ash_slices_Equal_Entry (.dat .bool) ((a0, a1, ()) : ((List En) × ((List En) × Unit))) = g_slices_Equal_Entry a0 a1 := by kernel_rfl
noncomputable def G_slices_Equal_Entry (x : ((List En) × ((List En) × Unit))) : Option Bool := g_slices_Equal_Entry x.1 x.2.1
noncomputable def con_slices_Equal_Entry : List AV → Prog AV := conP true ash_slices_Equal_Entry (.dat .bool) G_slices_Equal_Entry
theorem snd_slices_Equal_Entry : SoundA Try.prog 57 con_slices_Equal_Entry := conP_sound (cal_slices_Equal_Entry 57) true (by rfl) (by rfl) (fun x r e => (evGX_eq _ _ _ _ _ _ _).trans ((raw_slices_Equal_Entry x.1 x.2.1).trans e)) (.inl rfl)
end Go.Proofs.Ytbdcblpjemmipaa.Ex

namespace Go.Proofs.Ytbdcblpjemmipaa.Ex
open Go.Proofs Go.Proofs.Ytbdcblpjemmipaa
set_option maxRecDepth 100000
set_option maxHeartbeats 2000000
set_option linter.unusedVariables false
set_option linter.unusedSimpArgs false
def ash_tab_Same : List Sh := [.dat (.sl tEn), .dat (.sl tEn)]
noncomputable def sp_tab_Same : Nat → Option (List AV → Prog AV)
  | 57 => some (con_slices_Equal_Entry)
  | _ => none
theorem hsp_tab_Same : ∀ g p, sp_tab_Same g = some p → SoundA Try.prog g p := by
  intro g p h
  unfold sp_tab_Same at h
  split at h
  · cases h; exact snd_slices_Equal_Entry
  · cases h
noncomputable def cx_tab_Same : Ctx := { tab := tab, spec := sp_tab_Same, inl := inl, lps := fun _ _ => none, fuel := 40 }
theorem in_tab_Same : InlOk Try.prog cx_tab_Same := ⟨inl_ok, fun _ _ _ _ _ _ _ _ h => nomatch h⟩
theorem cal_tab_Same (g : Nat) : SoundA Try.prog g (evF cx_tab_Same keeps 8 g) := evF_sound (tabOk_of tab_ok) (cmpsOk_of tab_ok cmps_ok) mixed in_tab_Same hsp_tab_Same keeps 8 g
noncomputable def g_tab_Same (a0 : (List En)) (a1 : (List En)) : Option Bool :=
  optC (G_slices_Equal_Entry (a0, a1, ())) none fun d3 ↦ some d3
theorem raw_tab_Same (a0 : (List En)) (a1 : (List En)) : evGX cx_tab_Same keeps 8 22 ash_tab_Same (.dat .bool) ((a0, a1, ()) : ((List En) × ((List En) × Unit))) = g_tab_Same a0 a1 := by kernel_rfl
noncomputable def G_tab_Same (x : ((List En) × ((List En) × Unit))) : Option Bool := g_tab_Same x.1 x.2.1
noncomputable def con_tab_Same : List AV → Prog AV := conP false ash_tab_Same (.dat .bool) G_tab_Same
theorem snd_tab_Same : SoundA Try.prog 22 con_tab_Same := conP_sound (cal_tab_Same 22) false (by rfl) (by rfl) (fun x r e => (evGX_eq _ _ _ _ _ _ _).trans ((raw_tab_Same x.1 x.2.1).trans e)) (.inr fun _ => rfl)
end Go.Proofs.Ytbdcblpjemmipaa.Ex

namespace Go.Proofs.Ytbdcblpjemmipaa.Ex
set_option maxRecDepth 100000
set_option maxHeartbeats 2000000
set_option linter.unusedVariables false
set_option linter.unusedSimpArgs false
noncomputable def bd_slices_Equal_Entry_57_0_0 (s1 : (List En)) (s0 : (List En)) (i : Nat)  (d : En) : Option (Unit ⊕ (Unit ⊕ Bool)) :=
  optC s1[i]? (none) fun d7 ↦
   bif !(d.1 == d7.1 && (d.2.1 == d7.2.1 && (d.2.2.1 == d7.2.2.1 && (d.2.2.2.1 == d7.2.2.2.1 && (d.2.2.2.2.1 == d7.2.2.2.2.1 && d.2.2.2.2.2 == d7.2.2.2.2.2))))) then
   some (Sum.inr (Sum.inr false))
 else some (Sum.inl ())
noncomputable def fn_slices_Equal_Entry_57_0_0 (s1 : (List En)) (s0 : (List En))  : Option (Unit ⊕ Bool) :=
  some (Sum.inl PUnit.unit)
noncomputable abbrev rx_slices_Equal_Entry_57_0_0 (s1 : (List En)) (s0 : (List En)) (i : Nat) (s : Unit) : ((List En) × (List En) × Int × Int) := (s0, s1, (s0.length : Int), (i : Int))
noncomputable def rv_slices_Equal_Entry_57_0_0 (s1 : (List En)) (s0 : (List En)) (s : Unit) : Option (Unit ⊕ Bool) := rangeO (fun i s d => bd_slices_Equal_Entry_57_0_0 s1 s0 i  d) (fun s => fn_slices_Equal_Entry_57_0_0 s1 s0 ) 0 s0 s
theorem rg_slices_Equal_Entry_57_0_0 (s1 : (List En)) (s0 : (List En)) (s : Unit) (hl : s0.length < 9223372036854775807) : L_slices_Equal_Entry_57_0_0 (s0, s1, (s0.length : Int), 0) = rv_slices_Equal_Entry_57_0_0 s1 s0 s := by
  unfold L_slices_Equal_Entry_57_0_0 rv_slices_Equal_Entry_57_0_0
  refine iterO_range0 s0 (rx_slices_Equal_Entry_57_0_0 s1 s0) _ _ ?_ ?_ s (by unfold FUEL; omega)
  · intro i s d hi hd
    have e1 : decide ((i : Int) < (s0.length : Int)) = true := decide_eq_true (by omega)
    have e2 : decide (0 ≤ (i : Int)) = true := decide_eq_true (by omega)
    have e3 : Int.toNat (i : Int) = i := Int.toNat_natCast i
    have e4 := wrap_next hi (Nat.le_of_lt hl)
    show st_slices_Equal_Entry_57_0_0 (s0) (s1) ((s0.length : Int)) ((i : Int)) = upd _ (bd_slices_Equal_Entry_57_0_0 s1 s0 i  d)
    unfold st_slices_Equal_Entry_57_0_0 bd_slices_Equal_Entry_57_0_0
    simp only [e1, e2, e3, e4, hd, cond_true, cond_false, optC_some, upd_cond, upd_optC, upd_elim, upd_inl, upd_inr, upd_none]
  · intro s
    have e1 : decide ((s0.length : Int) < (s0.length : Int)) = false := decide_eq_false (by omega)
    show st_slices_Equal_Entry_57_0_0 (s0) (s1) ((s0.length : Int)) ((s0.length : Int)) = _
    unfold st_slices_Equal_Entry_57_0_0 fn_slices_Equal_Entry_57_0_0
    rw [e1]
    rfl
end Go.Proofs.Ytbdcblpjemmipaa.Ex

namespace Go.Proofs.Ytbdcblpjemmipaa.Ex
open Go.Proofs Go.Proofs.Ytbdcblpjemmipaa
set_option maxRecDepth 100000
set_option maxHeartbeats 2000000
set_option linter.unusedVariables false
set_option linter.unusedSimpArgs false
abbrev ty_171_0 : Type := (((List En) × ((List En) × ((List Int) × (Unit × (Int × Unit))))) × ((List En) × Unit))
abbrev fn_171_0 := (fun (d : ty_171_0) => ((d.1.1, d.1.2.1, d.1.2.2.1, d.1.2.2.2.2.1, d.2.1) : ((List En) × (List En) × (List Int) × Int × (List En))))
abbrev fn_171_1 := (fun (x : (List En)) => ((((), ()), (x, ())) : ((Unit × Unit) × ((List En) × Unit))))
def ash_ref12_Widen : List Sh := [.dat (.sl tEn), .dat (.sl tEn), .dat (.sl (.int .i64))]
def kp_ref12_Widen_27_0 : Nat → List Nat := fun c => bif c.beq 0 then [0, 1, 2, 7, 8] else [7]
noncomputable def sp_ref12_Widen : Nat → Option (List AV → Prog AV)
  | 26 => some (con_ref12_Add)
  | 64 => some (con_ref12_place)
  | 65 => some (con_ref2_Widen)
  | _ => none
theorem hsp_ref12_Widen : ∀ g p, sp_ref12_Widen g = some p → SoundA Try.prog g p := by
  intro g p h
  unfold sp_ref12_Widen at h
  split at h
  · cases h; exact snd_ref12_Add
  · cases h; exact snd_ref12_place
  · cases h; exact snd_ref2_Widen
  · cases h
noncomputable def cx_ref12_Widen0 : Ctx := { tab := tab, spec := sp_ref12_Widen, inl := inl, lps := fun _ _ => none, fuel := 40 }
theorem in_ref12_Widen0 : InlOk Try.prog cx_ref12_Widen0 := ⟨inl_ok, fun _ _ _ _ _ _ _ _ h => nomatch h⟩
theorem cal_ref12_Widen0 (g : Nat) : SoundA Try.prog g (evF cx_ref12_Widen0 keeps 8 g) := evF_sound (tabOk_of tab_ok) (cmpsOk_of tab_ok cmps_ok) mixed in_ref12_Widen0 hsp_ref12_Widen keeps 8 g
noncomputable def F_ref12_Widen_27_0 (base : Nat) : Tm → Prog (Nat × Tm) := evC cx_ref12_Widen0 (evF cx_ref12_Widen0 keeps 8) ⟨27, 61, keeps 27, base⟩ 0 (bodyX 27 0)
def s_ref12_Widen_27_0_0 : StS := ⟨[(0, .sl tEn), (1, .sl tEn), (2, .sl (.int .i64)), (7, .row 0), (8, .int .i64)], [(0, .row tEn)], 1⟩
def x_ref12_Widen_27_0_0_0 : StS := ⟨[(7, .row 0)], [(0, .row tEn)], 1⟩
noncomputable def st_ref12_Widen_27_0_0 (s0 : (List En)) (s1 : (List En)) (s2 : (List Int)) (s8 : Int) (b0 : (List En)) : Option (((List En) × (List En) × (List Int) × Int × (List En)) ⊕ (List En)) :=
  bif decide (s8 < (↑b0.length : Int)) then
 bif decide (0 ≤ s8) then
 optC b0[s8.toNat]? none fun d7 ↦
 optC b0[s8.toNat]? none fun d8 ↦
 optC (G_ref12_place (s0, d8, ())) none fun d9 ↦
 bif decide (0 ≤ s8) then
 optC b0[s8.toNat]? none fun d10 ↦
 optC b0[s8.toNat]? none fun d11 ↦
 optC (G_ref12_place (s1, d11, ())) none fun d12 ↦
 bif d9.2.1 then
 bif d12.2.1 then
 bif decide (0 ≤ d9.1) then
 optC s0[Int.toNat d9.1]? none fun d13 ↦
 bif decide (0 ≤ d12.1) then
 optC s1[Int.toNat d12.1]? none fun d14 ↦
 optC (G_ref2_Widen (d13.2.2.2.2, d14.2.2.2.2, s2, ())) none fun d15 ↦
 bif decide (0 ≤ s8) then
 optC b0[s8.toNat]? none fun d16 ↦
 optC b0[s8.toNat]? none fun d17 ↦
 some (Sum.inl (s0, s1, s2, Go.IntKind.i64.wrap (s8 + 1), b0.set s8.toNat (d17.1, d17.2.1, d17.2.2.1, d17.2.2.2.1, d15)))
 else none
 else none
 else none
 else some (Sum.inl (s0, s1, s2, Go.IntKind.i64.wrap (s8 + 1), b0))
 else some (Sum.inl (s0, s1, s2, Go.IntKind.i64.wrap (s8 + 1), b0))
 else none
 else none
 else some (Sum.inr b0)
theorem rn_ref12_Widen_27_0_0 (s0 : (List En)) (s1 : (List En)) (s2 : (List Int)) (s8 : Int) (b0 : (List En)) : rdX cx_ref12_Widen0 keeps 8 ⟨27, 61, keeps 27, 0⟩ 0 (bodyX 27 0) 0 kp_ref12_Widen_27_0 (sT s_ref12_Widen_27_0_0 ((s0, s1, s2, (), s8, ()), (b0, ()))) (sH s_ref12_Widen_27_0_0 ((s0, s1, s2, (), s8, ()), (b0, ()))) (rdO (fun T h => (rdS s_ref12_Widen_27_0_0 T h).map fn_171_0) (getE 2 x_ref12_Widen_27_0_0_0 (fun (d : ((Unit × Unit) × ((List En) × Unit))) => ((d.2.1) : (List En))))) = st_ref12_Widen_27_0_0 s0 s1 s2 s8 b0 := by kernel_rfl
noncomputable def L_ref12_Widen_27_0_0 (x : ((List En) × (List En) × (List Int) × Int × (List En))) : Option (List En) := iterO (fun x => st_ref12_Widen_27_0_0 x.1 x.2.1 x.2.2.1 x.2.2.2.1 x.2.2.2.2) FUEL x
noncomputable def q_ref12_Widen_27_0 : Nat → Tm → Prog (Nat × Tm) := (varP 0 (fun T h => (rdS s_ref12_Widen_27_0_0 T h).map fn_171_0) L_ref12_Widen_27_0_0 (altE 2 x_ref12_Widen_27_0_0_0 fn_171_1) (fun _ _ => .fail))
theorem ok_ref12_Widen_27_0 : VarOk kp_ref12_Widen_27_0 F_ref12_Widen_27_0 q_ref12_Widen_27_0 := (varX_ok (s := s_ref12_Widen_27_0_0) (un := (fun (x : ((List En) × (List En) × (List Int) × Int × (List En))) => (((x.1, x.2.1, x.2.2.1, (), x.2.2.2.1, ()), (x.2.2.2.2, ())) : ty_171_0))) (by rfl) (fun _ => rfl) (getE_ok (s := x_ref12_Widen_27_0_0_0) (un := fn_171_1) (by rfl) (fun _ => rfl)) (step := fun x => st_ref12_Widen_27_0_0 x.1 x.2.1 x.2.2.1 x.2.2.2.1 x.2.2.2.2) (fun x => rn_ref12_Widen_27_0_0 x.1 x.2.1 x.2.2.1 x.2.2.2.1 x.2.2.2.2) (fun _ _ e => ⟨_, e⟩) (altE_ok 2 x_ref12_Widen_27_0_0_0 fn_171_1) (VarOk.fail _ _))
noncomputable def lpI_ref12_Widen_27_0 (base : Nat) (T : Tm) : Prog (Nat × Tm) := .norm base (kp_ref12_Widen_27_0 0) T (q_ref12_Widen_27_0 base)
theorem sndI_ref12_Widen_27_0 : SoundC Try.prog 61 (.loop (bodyX 27 0)) lpI_ref12_Widen_27_0 := loopK_sound (cx := cx_ref12_Widen0) (cal := evF cx_ref12_Widen0 keeps 8) (kp := keeps 27) (tabOk_of tab_ok) (cmpsOk_of tab_ok cmps_ok) cal_ref12_Widen0 mixed (hl_of (g := 27) (b := 0) in_ref12_Widen0 (by kernel_rfl) (by kernel_rfl)) ok_ref12_Widen_27_0
noncomputable def lpL_ref12_Widen_27_0 : Nat → Tm → Prog (Nat × Tm) := lpI_ref12_Widen_27_0
theorem sndL_ref12_Widen_27_0 : SoundC Try.prog 61 (.loop (bodyX 27 0)) lpL_ref12_Widen_27_0 := sndI_ref12_Widen_27_0
noncomputable def lp_ref12_Widen : Nat → Nat → Option (Nat → Tm → Prog (Nat × Tm))
  | 27, 0 => some lpL_ref12_Widen_27_0
  | _, _ => none
noncomputable def cx_ref12_Widen : Ctx := { tab := tab, spec := sp_ref12_Widen, inl := inl, lps := lp_ref12_Widen, fuel := 40 }
theorem in_ref12_Widen : InlOk Try.prog cx_ref12_Widen := ⟨inl_ok, fun g fn c hg hb q hq p hp => by
  change lp_ref12_Widen g q.1 = some p at hp
  change inl g = some fn at hg
  generalize hq1 : q.1 = b at hp
  unfold lp_ref12_Widen at hp
  split at hp
  · cases hp; exact lps_case (inl := inl) hg hb hq hq1 (by kernel_rfl) (by kernel_rfl) sndL_ref12_Widen_27_0
  · cases hp⟩
theorem cal_ref12_Widen (g : Nat) : SoundA Try.prog g (evF cx_ref12_Widen keeps 8 g) := evF_sound (tabOk_of tab_ok) (cmpsOk_of tab_ok cmps_ok) mixed in_ref12_Widen hsp_ref12_Widen keeps 8 g
noncomputable def g_ref12_Widen (a0 : (List En)) (a1 : (List En)) (a2 : (List Int)) : Option (List En) :=
  optC (G_ref12_Add (a0, a1, ())) none fun d5 ↦ optC (L_ref12_Widen_27_0_0 (a0, a1, a2, 0, d5)) none fun d6 ↦ some d6
theorem raw_ref12_Widen (a0 : (List En)) (a1 : (List En)) (a2 : (List Int)) : evRX cx_ref12_Widen keeps 8 27 ash_ref12_Widen tEn ((a0, a1, a2, ()) : ((List En) × ((List En) × ((List Int) × Unit)))) = g_ref12_Widen a0 a1 a2 := by kernel_rfl
noncomputable def G_ref12_Widen (x : ((List En) × ((List En) × ((List Int) × Unit)))) : Option (List En) := g_ref12_Widen x.1 x.2.1 x.2.2.1
noncomputable def con_ref12_Widen : List AV → Prog AV := conR false ash_ref12_Widen tEn G_ref12_Widen
theorem snd_ref12_Widen : SoundA Try.prog 27 con_ref12_Widen := conR_sound (cal_ref12_Widen 27) false (by rfl) (fun x r e => (evRX_eq _ _ _ _ _ _ _).trans ((raw_ref12_Widen x.1 x.2.1 x.2.2.1).trans e)) (.inr (by rfl))
end Go.Proofs.Ytbdcblpjemmipaa.Ex

namespace Go.Proofs.Ytbdcblpjemmipaa.Ex
open Go.Proofs
set_option maxRecDepth 100000
set_option maxHeartbeats 2000000
set_option linter.unusedVariables false
set_option linter.unusedSimpArgs false
def stpT (f : I → I → I) (l : List En) (e : En) : List En := if empB (vl e) then l else pinT f e l
def addT (f : I → I → I) (l es : List En) : List En := es.foldl (stpT f) l
theorem step_len (f : I → I → I) (l : List En) (e : En) : (stpT f l e).length ≤ l.length + 1 := by
  unfold stpT
  have := put_len f e l
  split <;> omega
theorem step_srt {f : I → I → I} {l : List En} {e : En} (h : srt l) : srt (stpT f l e) := by
  unfold stpT
  split
  · exact h
  · exact put_srt h
theorem add_len (f : I → I → I) : ∀ (es l : List En), (addT f l es).length ≤ l.length + es.length
  | [], l => Nat.le_refl _
  | e :: r, l => by
    have h1 := add_len f r (stpT f l e)
    have h2 := step_len f l e
    show (addT f (stpT f l e) r).length ≤ _
    rw [List.length_cons]; omega
theorem add_srt {f : I → I → I} : ∀ {es l : List En}, srt l → srt (addT f l es)
  | [], l, h => h
  | e :: r, l, h => add_srt (es := r) (step_srt h)
theorem in_room {n p : Nat} (h : n ≤ 1000000000) (hp : p ≤ n) : decide (0 ≤ (p : Int) ∧ (p : Int) ≤ (n : Int) ∧ (n + 2) * 48 ≤ lim) = true := decide_eq_true (by unfold lim; omega)
theorem add_step (L : List En) (j : Nat) (s : List En) (d : En) (hs : srt s) (hn : s.length ≤ 1000000000) : bd_tab_Add_20_0_0 L j s d = some (.inl (stpT iJoin s d)) := by
  unfold bd_tab_Add_20_0_0 stpT
  rw [show decide (d.2.2.2.2.1 > d.2.2.2.2.2) = empB (vl d) from rfl]
  cases hE : empB (vl d)
  case true => rfl
  simp only [cond_false, G_tab_find, n_tab_find s d hs (by omega), optC_some, Bool.false_eq_true, if_false]
  cases hf : fndT d s
  · simp only [Bool.not_false, cond_true, in_room hn (pos_le d s), Int.toNat_natCast]
    rw [put_new _ _ _ hf]
  · obtain ⟨x, hx, hk⟩ := fnd_at d s hf
    simp only [Bool.not_true, cond_false, cond_true, decide_eq_true (show (0 : Int) ≤ (posT d s : Int) by omega), Int.toNat_natCast, hx, optC_some]
    rw [put_old _ _ _ x hf hx]
    rw [show decide (x.2.2.2.2.1 > x.2.2.2.2.2) = empB (vl x) from rfl]
    unfold iJoin
    cases hX : empB (vl x)
    · simp only [cond_false, hE, Bool.false_eq_true, if_false]
      rfl
    · simp only [cond_true, hE, Bool.false_eq_true, if_false, if_true]
      rfl
theorem radd_step (L : List En) (j : Nat) (s : List En) (d : En) (hn : s.length ≤ 1000000000) : bd_ref12_Add_26_0_0 L j s d = some (.inl (stpT rJoin s d)) := by
  unfold bd_ref12_Add_26_0_0 stpT
  rw [show decide (d.2.2.2.2.1 > d.2.2.2.2.2) = empB (vl d) from rfl]
  cases hE : empB (vl d)
  case true => rfl
  simp only [cond_false, G_ref12_place, n_place2 s d (by omega), optC_some, Bool.false_eq_true, if_false]
  have hp := pos_le d s
  cases hf : fndT d s
  · have e1 : decide ((0 : Int) ≤ 0 ∧ 0 ≤ (posT d s : Int) ∧ (posT d s : Int) ≤ (s.length : Int)) = true := decide_eq_true (by omega)
    have e2 : decide (0 ≤ (posT d s : Int) ∧ (posT d s : Int) ≤ (s.length : Int) ∧ (s.length : Int) ≤ (s.length : Int)) = true := decide_eq_true (by omega)
    have lm : ∀ n : Nat, n ≤ 1000000001 → decide ((n + 1) * 48 ≤ lim) = true := fun n h => decide_eq_true (by unfold lim; omega)
    simp only [cond_false, e1, e2, cond_true, Int.toNat_natCast, Int.toNat_zero, List.drop_zero, List.nil_append, List.length_nil, Nat.zero_add, List.take_length]
    rw [lm _ (by simp only [List.length_take]; omega), lm _ (by simp only [List.length_take, List.length_cons, List.length_nil]; omega), lm _ (by simp only [List.length_append, List.length_take, List.length_drop, List.length_cons, List.length_nil]; omega), put_new _ _ _ hf]
    simp only [cond_true, List.append_assoc, List.singleton_append]
  · obtain ⟨x, hx, hk⟩ := fnd_at d s hf
    simp only [cond_true, decide_eq_true (show (0 : Int) ≤ (posT d s : Int) by omega), Int.toNat_natCast, hx, optC_some, G_ref2_Join, n_ref2_Join]
    rw [put_old _ _ _ x hf hx]
    rfl
theorem fold_range {σ α Y : Type} {f : Nat → σ → α → Option (σ ⊕ Y)} {fin : σ → Option Y} {g : σ → α → σ} (ok : σ → List α → Prop) (h : ∀ j s d r, ok s (d :: r) → f j s d = some (.inl (g s d)) ∧ ok (g s d) r) :
    ∀ (r : List α) (j : Nat) (s : σ), ok s r → rangeO f fin j r s = fin (r.foldl g s)
  | [], _, _, _ => rfl
  | d :: r, j, s, hs => by
    obtain ⟨h1, h2⟩ := h j s d r hs
    rw [rangeO_inl h1, fold_range ok h r (j + 1) (g s d) h2]; rfl
theorem n_tab_Add (l es : List En) (hs : srt l) (hn : l.length + es.length ≤ 1000000000) : g_tab_Add l es = some (addT iJoin l es) := by
  unfold g_tab_Add
  simp only [List.nil_append, List.length_nil, Nat.zero_add]
  rw [show decide ((l.length + 1) * 48 ≤ lim) = true from decide_eq_true (by unfold lim; omega), rg_tab_Add_20_0_0 es l (by omega)]
  unfold rv_tab_Add_20_0_0
  rw [fold_range (g := stpT iJoin) (fun s r => srt s ∧ s.length + r.length ≤ 1000000000) (fun j s d r h => ⟨add_step es j s d h.1 (by have := h.2; rw [List.length_cons] at this; omega), step_srt h.1, by
    have := h.2; have := step_len iJoin s d; rw [List.length_cons] at *; omega⟩) es 0 l ⟨hs, hn⟩]
  rfl
theorem n_ref12_Add2 (l es : List En) (hn : l.length + es.length ≤ 1000000000) : g_ref12_Add l es = some (addT rJoin l es) := by
  unfold g_ref12_Add
  simp only [List.nil_append, List.length_nil, Nat.zero_add]
  rw [show decide ((l.length + 1) * 48 ≤ lim) = true from decide_eq_true (by unfold lim; omega), rg_ref12_Add_26_0_0 es l (by omega)]
  unfold rv_ref12_Add_26_0_0
  rw [fold_range (g := stpT rJoin) (fun s r => s.length + r.length ≤ 1000000000) (fun j s d r h => ⟨radd_step es j s d (by rw [List.length_cons] at h; omega), by
    have := step_len rJoin s d; rw [List.length_cons] at *; omega⟩) es 0 l hn]
  rfl
theorem n_tab_Join (a b : List En) (hs : srt a) (hn : a.length + b.length ≤ 1000000000) : g_tab_Join a b = some (addT iJoin a b) := by
  unfold g_tab_Join G_tab_Add
  simp only [n_tab_Add a b hs hn, optC_some]
theorem widS_go (z x y : I) (L : List Int) : ∀ (l : List Int) (j : Nat) (s : I), rangeO (fun i s d => bd_itv_Widen_63_1_0 x.1 x.2 y.1 y.2 z.1 z.2 L i s.1 s.2 d) (fun s => fn_itv_Widen_63_1_0 x.1 x.2 y.1 y.2 z.1 z.2 L s.1 s.2) j l s =
    some ((l.foldl (fun s d => if fitB d then (if d ≤ z.1 then mx s.1 d else s.1, if d ≥ z.2 then mn s.2 d else s.2) else (s.1, s.2)) s).1, (l.foldl (fun s d => if fitB d then (if d ≤ z.1 then mx s.1 d else s.1, if d ≥ z.2 then mn s.2 d else s.2) else (s.1, s.2)) s).2, x.1, x.2, y.1, y.2, z.1, z.2)
  | [], j, s => rfl
  | d :: r, j, s => by
    have h : bd_itv_Widen_63_1_0 x.1 x.2 y.1 y.2 z.1 z.2 L j s.1 s.2 d = some (.inl (if fitB d then (if d ≤ z.1 then mx s.1 d else s.1, if d ≥ z.2 then mn s.2 d else s.2) else (s.1, s.2))) := by
      unfold bd_itv_Widen_63_1_0 G_num_Fits
      simp only [n_num_Fits1, optC_some, mx_def, mn_def]
      cases fitB d
      · rfl
      · by_cases h1 : d ≤ z.1 <;> by_cases h2 : d ≥ z.2 <;> simp [h1, h2]
    rw [rangeO_inl h, widS_go z x y L r (j + 1)]
    rfl
theorem n_itv_Widen (x y : I) (l : List Int) (hl : l.length < 9223372036854775807) : g_itv_Widen x y l = some (widV x y l) := by
  unfold g_itv_Widen widV
  rw [show decide (y.1 > y.2) = empB y from rfl, show decide (x.1 > x.2) = empB x from rfl]
  cases hy : empB y
  · cases hx : empB x
    · simp only [cond_false, Bool.false_eq_true, if_false, G_itv_Join, n_itv_Join2, optC_some]
      have h := rg_itv_Widen_63_1_0 x.1 x.2 0 0 (iJoin x y).1 (iJoin x y).2 l aa hl
      have h2 := widS_go (iJoin x y) x (0, 0) l l 0 aa
      have e : L_itv_Widen_63_1_0 (-2147483648, 2147483647, l, (l.length : Int), 0, x.1, x.2, 0, 0, iJoin x y) = _ := h.trans h2
      rw [e]
      simp only [optC_some]
      unfold widS
      generalize List.foldl _ aa l = w
      by_cases h1 : (iJoin x y).1 < x.1 <;> by_cases h2 : (iJoin x y).2 > x.2 <;> simp [h1, h2]
    · rfl
  · rfl
theorem rwidS_go (z x y : I) (L : List Int) : ∀ (l : List Int) (j : Nat) (s : I), rangeO (fun i s d => bd_ref2_Widen_65_0_0 x.1 x.2 y.1 y.2 z.1 z.2 L i s.1 s.2 d) (fun s => fn_ref2_Widen_65_0_0 x.1 x.2 y.1 y.2 z.1 z.2 L s.1 s.2) j l s =
    some ((l.foldl (fun s d => (if d ≤ z.1 ∧ d > s.1 then d else s.1, if d ≥ z.2 ∧ d < s.2 then d else s.2)) s).1, (l.foldl (fun s d => (if d ≤ z.1 ∧ d > s.1 then d else s.1, if d ≥ z.2 ∧ d < s.2 then d else s.2)) s).2, x.1, x.2, y.1, y.2, z.1, z.2)
  | [], j, s => rfl
  | d :: r, j, s => by
    have h : bd_ref2_Widen_65_0_0 x.1 x.2 y.1 y.2 z.1 z.2 L j s.1 s.2 d = some (.inl (if d ≤ z.1 ∧ d > s.1 then d else s.1, if d ≥ z.2 ∧ d < s.2 then d else s.2)) := by
      unfold bd_ref2_Widen_65_0_0
      by_cases h1 : d ≤ z.1 <;> by_cases h2 : d > s.1 <;> by_cases h3 : d ≥ z.2 <;> by_cases h4 : d < s.2 <;> simp [h1, h2, h3, h4]
    rw [rangeO_inl h, rwidS_go z x y L r (j + 1)]
    rfl
theorem n_ref2_Widen (x y : I) (l : List Int) (hl : l.length < 9223372036854775807) : g_ref2_Widen x y l = some (rwidV x y l) := by
  unfold g_ref2_Widen rwidV
  rw [show decide (y.1 > y.2) = empB y from rfl, show decide (x.1 > x.2) = empB x from rfl]
  cases hy : empB y
  · cases hx : empB x
    · simp only [cond_false, Bool.false_eq_true, if_false, G_ref2_Join, n_ref2_Join, optC_some]
      have h := rg_ref2_Widen_65_0_0 x.1 x.2 0 0 (rJoin x y).1 (rJoin x y).2 l aa hl
      have h2 := rwidS_go (rJoin x y) x (0, 0) l l 0 aa
      have e : L_ref2_Widen_65_0_0 (l, -2147483648, 2147483647, 0, x.1, x.2, 0, 0, rJoin x y) = _ := h.trans h2
      rw [e]
      simp only [optC_some]
      unfold rwidS
      generalize List.foldl _ aa l = w
      by_cases h1 : (rJoin x y).1 < x.1 <;> by_cases h2 : (rJoin x y).2 > x.2 <;> simp [h1, h2]
    · rfl
  · rfl
def widF (st : List Int) (o n : I) : I := widV o n st
theorem wid_stpT (st : List Int) (hst : st.length < 9223372036854775807) (L : List En) (j : Nat) (s : List En) (d : En) (hs : srt s) (hn : s.length ≤ 1000000000) : bd_tab_Widen_24_0_0 st L j s d = some (.inl (stpT (widF st) s d)) := by
  unfold bd_tab_Widen_24_0_0 stpT
  rw [show decide (d.2.2.2.2.1 > d.2.2.2.2.2) = empB (vl d) from rfl]
  cases hE : empB (vl d)
  case true => rfl
  simp only [cond_false, G_tab_find, n_tab_find s d hs (by omega), optC_some, Bool.false_eq_true, if_false]
  cases hf : fndT d s
  · simp only [Bool.not_false, cond_true, in_room hn (pos_le d s), Int.toNat_natCast]
    rw [put_new _ _ _ hf]
  · obtain ⟨x, hx, hk⟩ := fnd_at d s hf
    simp only [Bool.not_true, cond_false, cond_true, decide_eq_true (show (0 : Int) ≤ (posT d s : Int) by omega), Int.toNat_natCast, hx, optC_some, G_itv_Widen, n_itv_Widen _ _ _ hst]
    rw [put_old _ _ _ x hf hx]
    rfl
theorem n_tab_Widen (l es : List En) (st : List Int) (hst : st.length < 9223372036854775807) (hs : srt l) (hn : l.length + es.length ≤ 1000000000) : g_tab_Widen l es st = some (addT (widF st) l es) := by
  unfold g_tab_Widen
  simp only [List.nil_append, List.length_nil, Nat.zero_add]
  rw [show decide ((l.length + 1) * 48 ≤ lim) = true from decide_eq_true (by unfold lim; omega), rg_tab_Widen_24_0_0 st es l (by omega)]
  unfold rv_tab_Widen_24_0_0
  rw [fold_range (g := stpT (widF st)) (fun s r => srt s ∧ s.length + r.length ≤ 1000000000) (fun j s d r h => ⟨wid_stpT st hst es j s d h.1 (by have := h.2; rw [List.length_cons] at this; omega), step_srt h.1, by
    have := h.2; have := step_len (widF st) s d; rw [List.length_cons] at *; omega⟩) es 0 l ⟨hs, hn⟩]
  rfl
def belowB (b : List En) (e : En) : Bool := fndT e b && (b[posT e b]?).elim false fun d => leqB (vl e) (vl d)
def leqTB (a b : List En) : Bool := a.all (belowB b)
theorem range_all {α Y : Type} {f : Nat → Unit → α → Option (Unit ⊕ Y)} {fin : Unit → Option Y} {p : α → Bool} {out : Nat → Y} (h : ∀ j d, f j () d = bif p d then some (.inl ()) else some (.inr (out j))) :
    ∀ (r : List α) (j : Nat), ∃ k : Nat, rangeO f fin j r () = bif r.all p then fin () else some (out k)
  | [], j => ⟨j, rfl⟩
  | d :: r, j => by
    have hd := h j d
    rw [List.all_cons]
    cases hp : p d
    · rw [hp] at hd
      exact ⟨j, by rw [rangeO, hd]; rfl⟩
    · rw [hp] at hd
      obtain ⟨k, hk⟩ := range_all h r (j + 1)
      exact ⟨k, by rw [rangeO_inl hd, hk]; rfl⟩
theorem below_at {b : List En} {e : En} (h : fndT e b = true) : ∃ d, b[posT e b]? = some d ∧ ky d = ky e ∧ belowB b e = leqB (vl e) (vl d) := by
  obtain ⟨d, hd, hk⟩ := fnd_at e b h
  exact ⟨d, hd, hk, by unfold belowB; rw [h, hd]; rfl⟩
theorem n_tab_Leq (a b : List En) (hs : srt b) (ha : a.length < 2305843009213693952) (hb : b.length < 2305843009213693952) : g_tab_Leq a b = some (leqTB a b) := by
  have h : ∀ j d, bd_tab_Leq_95_0_0 b a j d = bif belowB b d then some (.inl ()) else some (.inr (.inr ((j : Int), b))) := fun j d => by
    unfold bd_tab_Leq_95_0_0
    simp only [G_tab_find, n_tab_find b d hs hb, optC_some]
    cases hf : fndT d b
    · rw [show belowB b d = false by unfold belowB; rw [hf]; rfl]; rfl
    · obtain ⟨x, hx, hk, hB⟩ := below_at hf
      simp only [Bool.not_true, cond_false, decide_eq_true (show (0 : Int) ≤ (posT d b : Int) by omega), cond_true, Int.toNat_natCast, hx, optC_some, G_itv_Leq, n_itv_Leq]
      rw [hB]
      show (bif !leqB (vl d) (vl x) then _ else _) = _
      cases leqB (vl d) (vl x) <;> rfl
  obtain ⟨k, hk⟩ := range_all (f := fun i _ d => bd_tab_Leq_95_0_0 b a i d) (fin := fun _ => fn_tab_Leq_95_0_0 b a) (p := belowB b) (out := fun j => .inr ((j : Int), b)) h a 0
  unfold g_tab_Leq
  rw [rg_tab_Leq_95_0_0 b a () (by omega)]
  unfold rv_tab_Leq_95_0_0
  rw [hk]
  unfold leqTB
  cases a.all (belowB b)
  · show some (!decide ((k : Int) ≥ 0)) = _
    rw [decide_eq_true (by omega)]; rfl
  · rfl
theorem n_ref12_Leq (a b : List En) (ha : a.length < 2305843009213693952) (hb : b.length < 2305843009213693952) : g_ref12_Leq a b = some (leqTB a b) := by
  have h : ∀ j d, bd_ref12_Leq_30_0_0 b a j d = bif belowB b d then some (.inl ()) else some (.inr (.inr false)) := fun j d => by
    unfold bd_ref12_Leq_30_0_0
    simp only [G_ref12_place, n_place2 b d (by omega), optC_some]
    cases hf : fndT d b
    · rw [show belowB b d = false by unfold belowB; rw [hf]; rfl]; rfl
    · obtain ⟨x, hx, hk, hB⟩ := below_at hf
      simp only [Bool.not_true, cond_false, decide_eq_true (show (0 : Int) ≤ (posT d b : Int) by omega), cond_true, Int.toNat_natCast, hx, optC_some, G_ref2_Leq, n_ref2_Leq]
      rw [hB]
      show (bif !leqB (vl d) (vl x) then _ else _) = _
      cases leqB (vl d) (vl x) <;> rfl
  obtain ⟨k, hk⟩ := range_all (f := fun i _ d => bd_ref12_Leq_30_0_0 b a i d) (fin := fun _ => fn_ref12_Leq_30_0_0 b a) (p := belowB b) (out := fun _ => .inr false) h a 0
  unfold g_ref12_Leq
  rw [rg_ref12_Leq_30_0_0 b a () (by omega)]
  unfold rv_ref12_Leq_30_0_0
  rw [hk]
  unfold leqTB
  cases a.all (belowB b) <;> rfl
def eqE (d e : En) : Bool := d.1 == e.1 && (d.2.1 == e.2.1 && (d.2.2.1 == e.2.2.1 && (d.2.2.2.1 == e.2.2.2.1 && (d.2.2.2.2.1 == e.2.2.2.2.1 && d.2.2.2.2.2 == e.2.2.2.2.2))))
theorem eqE_iff {d e : En} : eqE d e = true ↔ d = e := by
  obtain ⟨d1, d2, d3, d4, d5, d6⟩ := d
  obtain ⟨e1, e2, e3, e4, e5, e6⟩ := e
  simp only [eqE, Bool.and_eq_true, beq_iff_eq, Prod.mk.injEq]
theorem same_go {f : Nat → Unit → En → Option (Unit ⊕ (Unit ⊕ Bool))} {b : List En} (h : ∀ j d, f j () d = optC b[j]? none fun e => bif !(eqE d e) then some (.inr (.inr false)) else some (.inl ())) :
    ∀ (r : List En) (j : Nat), j + r.length = b.length → rangeO f (fun _ => some (.inl ())) j r () = bif decide (r = b.drop j) then some (.inl ()) else some (.inr false)
  | [], j, hj => by
    rw [List.drop_eq_nil_of_le (by simp only [List.length_nil] at hj; omega)]; rfl
  | d :: r, j, hj => by
    simp only [List.length_cons] at hj
    have hlt : j < b.length := by omega
    have hd := h j d
    rw [List.getElem?_eq_getElem hlt] at hd
    simp only [optC_some] at hd
    rw [List.drop_eq_getElem_cons hlt]
    generalize b[j] = x at hd
    cases he : eqE d x
    · rw [he] at hd
      have : ¬ (d :: r = x :: b.drop (j + 1)) := fun q => by
        have := eqE_iff.2 (List.cons.inj q).1
        rw [he] at this; cases this
      rw [decide_eq_false this, rangeO, hd]; rfl
    · rw [he] at hd
      obtain rfl := eqE_iff.1 he
      rw [rangeO_inl hd, same_go h r (j + 1) (by omega)]
      congr 1
      rw [decide_eq_decide]
      exact ⟨fun q => by rw [q], fun q => (List.cons.inj q).2⟩
theorem n_same {g : Option Bool} {a b : List En} {f : Nat → Unit → En → Option (Unit ⊕ (Unit ⊕ Bool))} (h : ∀ j d, f j () d = optC b[j]? none fun e => bif !(eqE d e) then some (.inr (.inr false)) else some (.inl ()))
    (hg : g = bif (a.length : Int) != (b.length : Int) then some false else optC (rangeO f (fun _ => some (.inl ())) 0 a ()) none fun d4 => Sum.elim (fun _ => some true) (fun e5 => some e5) d4) : g = some (decide (a = b)) := by
  rw [hg]
  by_cases hl : a.length = b.length
  · rw [show ((a.length : Int) != (b.length : Int)) = false by simp [hl], same_go h a 0 (by omega), List.drop_zero]
    cases decide (a = b) <;> rfl
  · rw [show ((a.length : Int) != (b.length : Int)) = true by simp; omega, decide_eq_false (fun e => hl (by rw [e]))]; rfl
theorem n_tab_Same (a b : List En) (ha : a.length < 2305843009213693952) : g_tab_Same a b = some (decide (a = b)) := by
  unfold g_tab_Same G_slices_Equal_Entry
  rw [n_same (g := g_slices_Equal_Entry a b) (f := fun i _ d => bd_slices_Equal_Entry_57_0_0 b a i d) (fun j d => rfl) (by
    unfold g_slices_Equal_Entry
    rw [rg_slices_Equal_Entry_57_0_0 b a () (by omega)]; rfl)]
  rfl
theorem n_ref12_Same (a b : List En) (ha : a.length < 2305843009213693952) : g_ref12_Same a b = some (decide (a = b)) :=
  n_same (f := fun i _ d => bd_ref12_Same_25_0_0 b a i d) (fun j d => rfl) (by
    unfold g_ref12_Same
    rw [rg_ref12_Same_25_0_0 b a () (by omega)]; rfl)
def setW (a b : List En) (st : List Int) (e : En) : En := match tget a (ky e), tget b (ky e) with
  | some u, some v => setV e (rwidV u v st)
  | _, _ => e
theorem fnd_tget {l : List En} (hs : srt l) (e : En) : (fndT e l = true → ∃ d, l[posT e l]? = some d ∧ tget l (ky e) = some (vl d)) ∧ (fndT e l = false → tget l (ky e) = none) := by
  refine ⟨fun h => ?_, fun h => ?_⟩
  · obtain ⟨d, hd, hk⟩ := fnd_at e l h
    exact ⟨d, hd, by rw [← hk]; exact mem_tget hs (List.mem_of_getElem? hd)⟩
  · cases hg : tget l (ky e) with
    | none => rfl
    | some v =>
      exfalso
      obtain ⟨d, hd, hk, hv⟩ := tget_mem hg
      obtain ⟨q, hq, rfl⟩ := List.mem_iff_getElem.1 hd
      have h0 : ordI l[q] e = 0 := ord_eq.2 hk
      have h1 := fun k => pos_before e l q _ k (List.getElem?_eq_getElem hq)
      by_cases h2 : q < posT e l
      · have := h1 h2; omega
      · have h3 : posT e l < l.length := by omega
        have h4 := fnd_no e l h _ (List.getElem?_eq_getElem h3)
        have h5 := pos_after hs (posT e l) _ (Nat.le_refl _) (List.getElem?_eq_getElem h3)
        by_cases h6 : q = posT e l
        · subst h6; exact h4 h0
        · have := List.pairwise_iff_getElem.1 hs (posT e l) q h3 hq (by omega)
          rw [ord_lt] at h5
          rw [ord_eq] at h4
          rw [hk] at this
          exact h5 this
theorem n_ref12_Widen (a b : List En) (st : List Int) (hst : st.length < 9223372036854775807) (ha : srt a) (hb : srt b) (hn : a.length + b.length ≤ 1000000000) : g_ref12_Widen a b st = some ((addT rJoin a b).map (setW a b st)) := by
  unfold g_ref12_Widen
  simp only [G_ref12_Add, n_ref12_Add2 a b hn, optC_some]
  have hl := add_len rJoin b a
  generalize addT rJoin a b = l at *
  have key := iterO_map (step := fun x => st_ref12_Widen_27_0_0 x.1 x.2.1 x.2.2.1 x.2.2.2.1 x.2.2.2.2) (fun i r => (a, b, st, (i : Int), r)) (fun _ => setW a b st) (fun r => r) l (fun i d r hi hr hd => by
      have hj : i < l.length := (List.getElem?_eq_some_iff.1 hi).1
      have e1 : decide ((i : Int) < (r.length : Int)) = true := decide_eq_true (by omega)
      have e2 : decide (0 ≤ (i : Int)) = true := decide_eq_true (by omega)
      have e3 : Int.toNat (i : Int) = i := Int.toNat_natCast i
      have e4 : IntKind.i64.wrap ((i : Int) + 1) = ((i + 1 : Nat) : Int) := by rw [wr (by omega)]; omega
      show st_ref12_Widen_27_0_0 a b st (i : Int) r = _
      unfold st_ref12_Widen_27_0_0
      simp only [e1, e2, e3, e4, hd, cond_true, optC_some, G_ref12_place, n_place2 _ _ (show a.length < 9223372036854775807 by omega), n_place2 _ _ (show b.length < 9223372036854775807 by omega)]
      have noset : r.set i d = r := by
        refine List.ext_getElem? fun q => ?_
        by_cases hq : i = q
        · subst hq; rw [List.getElem?_set_self (by omega), hd]
        · rw [List.getElem?_set_ne hq]
      unfold setW
      cases hfa : fndT d a
      · rw [(fnd_tget ha d).2 hfa]
        simp only [cond_false, noset]
      · obtain ⟨x, hx, hgx⟩ := (fnd_tget ha d).1 hfa
        rw [hgx]
        cases hfb : fndT d b
        · rw [(fnd_tget hb d).2 hfb]
          simp only [cond_false, cond_true, noset]
        · obtain ⟨y, hy, hgy⟩ := (fnd_tget hb d).1 hfb
          rw [hgy]
          simp only [cond_true, decide_eq_true (show (0 : Int) ≤ (posT d a : Int) by omega), decide_eq_true (show (0 : Int) ≤ (posT d b : Int) by omega), Int.toNat_natCast, hx, hy, optC_some, G_ref2_Widen, n_ref2_Widen _ _ _ hst]
          rfl)
    (fun r hr => by
      show st_ref12_Widen_27_0_0 a b st (l.length : Int) r = _
      unfold st_ref12_Widen_27_0_0
      rw [hr, decide_eq_false (by omega)]
      rfl) (by omega)
  unfold L_ref12_Widen_27_0_0
  rw [show iterO (fun x => st_ref12_Widen_27_0_0 x.1 x.2.1 x.2.2.1 x.2.2.2.1 x.2.2.2.2) FUEL (a, b, st, 0, l) = _ from key]
  simp only [optC_some]
  congr 1
  refine List.ext_getElem? fun q => ?_
  rw [List.getElem?_mapIdx, List.getElem?_map]
end Go.Proofs.Ytbdcblpjemmipaa.Ex

namespace Go.Proofs.Ytbdcblpjemmipaa.Ex
open Go.Proofs Go.Proofs.Ytbdcblpjemmipaa
set_option maxRecDepth 100000
set_option maxHeartbeats 2000000
set_option linter.unusedVariables false
set_option linter.unusedSimpArgs false
abbrev fn_173_0 := (fun (d : (((List (List En)) × (Int × Unit)) × Unit)) => ((d.1.1, d.1.2.1) : ((List (List En)) × Int)))
def ash_law12_tables : List Sh := [.dat (.sl (.sl tEn))]
def kp_law12_tables_12_0 : Nat → List Nat := fun c => bif c.beq 0 then [0, 3] else [2]
noncomputable def sp_law12_tables : Nat → Option (List AV → Prog AV)
  | 21 => some (con_ref12_Is)
  | _ => none
theorem hsp_law12_tables : ∀ g p, sp_law12_tables g = some p → SoundA Try.prog g p := by
  intro g p h
  unfold sp_law12_tables at h
  split at h
  · cases h; exact snd_ref12_Is
  · cases h
noncomputable def cx_law12_tables0 : Ctx := { tab := tab, spec := sp_law12_tables, inl := inl, lps := fun _ _ => none, fuel := 40 }
theorem in_law12_tables0 : InlOk Try.prog cx_law12_tables0 := ⟨inl_ok, fun _ _ _ _ _ _ _ _ h => nomatch h⟩
theorem cal_law12_tables0 (g : Nat) : SoundA Try.prog g (evF cx_law12_tables0 keeps 8 g) := evF_sound (tabOk_of tab_ok) (cmpsOk_of tab_ok cmps_ok) mixed in_law12_tables0 hsp_law12_tables keeps 8 g
noncomputable def F_law12_tables_12_0 (base : Nat) : Tm → Prog (Nat × Tm) := evC cx_law12_tables0 (evF cx_law12_tables0 keeps 8) ⟨12, 24, keeps 12, base⟩ 0 (bodyX 12 0)
def s_law12_tables_12_0_0 : StS := ⟨[(0, .sl (.sl tEn)), (3, .int .i64)], [], 0⟩
def x_law12_tables_12_0_0_0 : StS := ⟨[(2, .undef)], [], 0⟩
def x_law12_tables_12_0_0_1 : StS := ⟨[(2, .bool)], [], 0⟩
noncomputable def st_law12_tables_12_0_0 (s0 : (List (List En))) (s3 : Int) : Option (((List (List En)) × Int) ⊕ (Unit ⊕ Bool)) :=
  bif decide (s3 < (↑s0.length : Int)) then
 bif decide (0 ≤ s3) then
 optC s0[s3.toNat]? none fun d4 ↦
 bif decide ((↑(List.length d4) : Int) > 60) then some (Sum.inr (Sum.inr false))
 else
 bif decide (0 ≤ s3) then
 optC s0[s3.toNat]? none fun d5 ↦
 optC (G_ref12_Is (d5, ())) none fun d6 ↦ bif !d6 then some (Sum.inr (Sum.inr false)) else some (Sum.inl (s0, Go.IntKind.i64.wrap (s3 + 1)))
 else none
 else none
 else some (Sum.inr (Sum.inl PUnit.unit))
theorem rn_law12_tables_12_0_0 (s0 : (List (List En))) (s3 : Int) : rdX cx_law12_tables0 keeps 8 ⟨12, 24, keeps 12, 0⟩ 0 (bodyX 12 0) 0 kp_law12_tables_12_0 (sT s_law12_tables_12_0_0 ((s0, s3, ()), ())) (sH s_law12_tables_12_0_0 ((s0, s3, ()), ())) (rdO (fun T h => (rdS s_law12_tables_12_0_0 T h).map fn_173_0) (getOr (getE 2 x_law12_tables_12_0_0_0 (fun (d : ((Unit × Unit) × Unit)) => (() : Unit))) (getE 1 x_law12_tables_12_0_0_1 (fun (d : ((Bool × Unit) × Unit)) => ((d.1.1) : Bool))))) = st_law12_tables_12_0_0 s0 s3 := by kernel_rfl
noncomputable def L_law12_tables_12_0_0 (x : ((List (List En)) × Int)) : Option (Unit ⊕ Bool) := iterO (fun x => st_law12_tables_12_0_0 x.1 x.2) FUEL x
noncomputable def q_law12_tables_12_0 : Nat → Tm → Prog (Nat × Tm) := (varP 0 (fun T h => (rdS s_law12_tables_12_0_0 T h).map fn_173_0) L_law12_tables_12_0_0 (fun y => .alt y (altE 2 x_law12_tables_12_0_0_0 (fun (x : Unit) => ((((), ()), ()) : ((Unit × Unit) × Unit)))) (altE 1 x_law12_tables_12_0_0_1 (fun (x : Bool) => (((x, ()), ()) : ((Bool × Unit) × Unit))))) (fun _ _ => .fail))
theorem ok_law12_tables_12_0 : VarOk kp_law12_tables_12_0 F_law12_tables_12_0 q_law12_tables_12_0 := (varX_ok (s := s_law12_tables_12_0_0) (un := (fun (x : ((List (List En)) × Int)) => (((x.1, x.2, ()), ()) : (((List (List En)) × (Int × Unit)) × Unit)))) (by rfl) (fun _ => rfl) (getOr_ok (getE_ok (s := x_law12_tables_12_0_0_0) (un := (fun (x : Unit) => ((((), ()), ()) : ((Unit × Unit) × Unit)))) (by rfl) (fun _ => rfl)) (getE_ok (s := x_law12_tables_12_0_0_1) (un := (fun (x : Bool) => (((x, ()), ()) : ((Bool × Unit) × Unit)))) (by rfl) (fun _ => rfl))) (step := fun x => st_law12_tables_12_0_0 x.1 x.2) (fun x => rn_law12_tables_12_0_0 x.1 x.2) (fun _ _ e => ⟨_, e⟩) (altOr_ok (altE_ok 2 x_law12_tables_12_0_0_0 (fun (x : Unit) => ((((), ()), ()) : ((Unit × Unit) × Unit)))) (altE_ok 1 x_law12_tables_12_0_0_1 (fun (x : Bool) => (((x, ()), ()) : ((Bool × Unit) × Unit))))) (VarOk.fail _ _))
noncomputable def lpI_law12_tables_12_0 (base : Nat) (T : Tm) : Prog (Nat × Tm) := .norm base (kp_law12_tables_12_0 0) T (q_law12_tables_12_0 base)
theorem sndI_law12_tables_12_0 : SoundC Try.prog 24 (.loop (bodyX 12 0)) lpI_law12_tables_12_0 := loopK_sound (cx := cx_law12_tables0) (cal := evF cx_law12_tables0 keeps 8) (kp := keeps 12) (tabOk_of tab_ok) (cmpsOk_of tab_ok cmps_ok) cal_law12_tables0 mixed (hl_of (g := 12) (b := 0) in_law12_tables0 (by kernel_rfl) (by kernel_rfl)) ok_law12_tables_12_0
noncomputable def lpL_law12_tables_12_0 : Nat → Tm → Prog (Nat × Tm) := lpI_law12_tables_12_0
theorem sndL_law12_tables_12_0 : SoundC Try.prog 24 (.loop (bodyX 12 0)) lpL_law12_tables_12_0 := sndI_law12_tables_12_0
noncomputable def lp_law12_tables : Nat → Nat → Option (Nat → Tm → Prog (Nat × Tm))
  | 12, 0 => some lpL_law12_tables_12_0
  | _, _ => none
noncomputable def cx_law12_tables : Ctx := { tab := tab, spec := sp_law12_tables, inl := inl, lps := lp_law12_tables, fuel := 40 }
theorem in_law12_tables : InlOk Try.prog cx_law12_tables := ⟨inl_ok, fun g fn c hg hb q hq p hp => by
  change lp_law12_tables g q.1 = some p at hp
  change inl g = some fn at hg
  generalize hq1 : q.1 = b at hp
  unfold lp_law12_tables at hp
  split at hp
  · cases hp; exact lps_case (inl := inl) hg hb hq hq1 (by kernel_rfl) (by kernel_rfl) sndL_law12_tables_12_0
  · cases hp⟩
theorem cal_law12_tables (g : Nat) : SoundA Try.prog g (evF cx_law12_tables keeps 8 g) := evF_sound (tabOk_of tab_ok) (cmpsOk_of tab_ok cmps_ok) mixed in_law12_tables hsp_law12_tables keeps 8 g
noncomputable def g_law12_tables (a0 : (List (List En))) : Option Bool :=
  optC (L_law12_tables_12_0_0 (a0, 0)) none fun d3 ↦ Sum.elim (fun e4 ↦ some true) (fun e4 ↦ some e4) d3
theorem raw_law12_tables (a0 : (List (List En))) : evGX cx_law12_tables keeps 8 12 ash_law12_tables (.dat .bool) ((a0, ()) : ((List (List En)) × Unit)) = g_law12_tables a0 := by kernel_rfl
noncomputable def G_law12_tables (x : ((List (List En)) × Unit)) : Option Bool := g_law12_tables x.1
noncomputable def con_law12_tables : List AV → Prog AV := conP true ash_law12_tables (.dat .bool) G_law12_tables
theorem snd_law12_tables : SoundA Try.prog 12 con_law12_tables := conP_sound (cal_law12_tables 12) true (by rfl) (by rfl) (fun x r e => (evGX_eq _ _ _ _ _ _ _).trans ((raw_law12_tables x.1).trans e)) (.inl rfl)
end Go.Proofs.Ytbdcblpjemmipaa.Ex

namespace Go.Proofs.Ytbdcblpjemmipaa.Ex
set_option maxRecDepth 100000
set_option maxHeartbeats 2000000
set_option linter.unusedVariables false
set_option linter.unusedSimpArgs false
noncomputable def bd_law12_tables_12_0_0  (s0 : (List (List En))) (i : Nat)  (d : (List En)) : Option (Unit ⊕ (Unit ⊕ Bool)) :=
  bif decide ((↑(List.length d) : Int) > 60) then
   some (Sum.inr (Sum.inr false))
 else optC (G_ref12_Is (d, ())) (none) fun d6 ↦
   bif !d6 then
   some (Sum.inr (Sum.inr false))
 else some (Sum.inl ())
noncomputable def fn_law12_tables_12_0_0  (s0 : (List (List En)))  : Option (Unit ⊕ Bool) :=
  some (Sum.inl PUnit.unit)
noncomputable abbrev rx_law12_tables_12_0_0  (s0 : (List (List En))) (i : Nat) (s : Unit) : ((List (List En)) × Int) := (s0, (i : Int))
noncomputable def rv_law12_tables_12_0_0  (s0 : (List (List En))) (s : Unit) : Option (Unit ⊕ Bool) := rangeO (fun i s d => bd_law12_tables_12_0_0  s0 i  d) (fun s => fn_law12_tables_12_0_0  s0 ) 0 s0 s
theorem rg_law12_tables_12_0_0  (s0 : (List (List En))) (s : Unit) (hl : s0.length < 9223372036854775807) : L_law12_tables_12_0_0 (s0, 0) = rv_law12_tables_12_0_0  s0 s := by
  unfold L_law12_tables_12_0_0 rv_law12_tables_12_0_0
  refine iterO_range0 s0 (rx_law12_tables_12_0_0  s0) _ _ ?_ ?_ s (by unfold FUEL; omega)
  · intro i s d hi hd
    have e1 : decide ((i : Int) < (s0.length : Int)) = true := decide_eq_true (by omega)
    have e2 : decide (0 ≤ (i : Int)) = true := decide_eq_true (by omega)
    have e3 : Int.toNat (i : Int) = i := Int.toNat_natCast i
    have e4 := wrap_next hi (Nat.le_of_lt hl)
    show st_law12_tables_12_0_0 (s0) ((i : Int)) = upd _ (bd_law12_tables_12_0_0  s0 i  d)
    unfold st_law12_tables_12_0_0 bd_law12_tables_12_0_0
    simp only [e1, e2, e3, e4, hd, cond_true, cond_false, optC_some, upd_cond, upd_optC, upd_elim, upd_inl, upd_inr, upd_none]
  · intro s
    have e1 : decide ((s0.length : Int) < (s0.length : Int)) = false := decide_eq_false (by omega)
    show st_law12_tables_12_0_0 (s0) ((s0.length : Int)) = _
    unfold st_law12_tables_12_0_0 fn_law12_tables_12_0_0
    rw [e1]
    rfl
end Go.Proofs.Ytbdcblpjemmipaa.Ex

namespace Go.Proofs.Ytbdcblpjemmipaa.Ex
open Go.Proofs
set_option maxRecDepth 100000
set_option maxHeartbeats 2000000
set_option linter.unusedVariables false
set_option linter.unusedSimpArgs false
structure okA (e : En) : Prop where
  v : isB (vl e) = true
  h : 0 ≤ e.2.2.2.1 ∧ e.2.2.2.1 < 2147483648
theorem entOK.a {e : En} (h : entOK e) : okA e := ⟨h.v, h.h⟩
def okF (f : I → I → I) : Prop := ∀ u v, isB u = true → empB u = false → isB v = true → empB v = false → isB (f u v) = true ∧ empB (f u v) = false
theorem okF_join : okF iJoin := fun u v hu eu hv ev => ⟨by rw [join_eq hv]; exact rjoin_is hu hv, by rw [join_emp, eu]; rfl⟩
theorem okF_wid (st : List Int) : okF (widF st) := fun u v hu eu hv ev => by
  obtain ⟨h1, h2, h3, _⟩ := wid_step hu hv st
  refine ⟨h3, ?_⟩
  exact (ne_leq h1 eu).2
theorem stp_ok {f : I → I → I} (hf : okF f) {l : List En} {e : En} (hl : ∀ x ∈ l, entOK x) (he : okA e) : ∀ x ∈ stpT f l e, entOK x := by
  unfold stpT
  cases hE : empB (vl e)
  case true => simpa using hl
  simp only [Bool.false_eq_true, if_false]
  intro x hx
  rcases put_mem hx with h | rfl | ⟨d, hd, hk, rfl⟩
  · exact hl x h
  · exact ⟨he.v, hE, he.h⟩
  · have k := hl d hd
    obtain ⟨h1, h2⟩ := hf (vl d) (vl e) k.v k.n he.v hE
    exact ⟨h1, h2, k.h⟩
theorem add_ok {f : I → I → I} (hf : okF f) : ∀ {es l : List En}, (∀ x ∈ l, entOK x) → (∀ x ∈ es, okA x) → ∀ x ∈ addT f l es, entOK x
  | [], l, hl, _ => hl
  | e :: r, l, hl, h => add_ok hf (es := r) (stp_ok hf hl (h e (List.mem_cons_self ..))) fun x hx => h x (List.mem_cons_of_mem _ hx)
theorem pin_congr {f g : I → I → I} (h : ∀ u v, isB u = true → empB u = false → isB v = true → empB v = false → f u v = g u v) {e : En} (he : isB (vl e) = true) (hE : empB (vl e) = false) : ∀ {l : List En}, (∀ x ∈ l, entOK x) → pinT f e l = pinT g e l
  | [], _ => rfl
  | d :: r, hl => by
    have k := hl d (List.mem_cons_self ..)
    unfold pinT
    rw [pin_congr h he hE (l := r) fun x hx => hl x (List.mem_cons_of_mem _ hx), h (vl d) (vl e) k.v k.n he hE]
theorem add_congr {f g : I → I → I} (hf : okF f) (h : ∀ u v, isB u = true → empB u = false → isB v = true → empB v = false → f u v = g u v) : ∀ {es l : List En}, (∀ x ∈ l, entOK x) → (∀ x ∈ es, okA x) → addT f l es = addT g l es
  | [], l, _, _ => rfl
  | e :: r, l, hl, k => by
    have he := k e (List.mem_cons_self ..)
    have hs : stpT f l e = stpT g l e := by
      unfold stpT
      cases hE : empB (vl e)
      · simp only [Bool.false_eq_true, if_false]; exact pin_congr h he.v hE hl
      · rfl
    show addT f (stpT f l e) r = addT g (stpT g l e) r
    rw [← hs]
    exact add_congr hf h (stp_ok hf hl he) fun x hx => k x (List.mem_cons_of_mem _ hx)
theorem add_join {l es : List En} (hl : ∀ x ∈ l, entOK x) (he : ∀ x ∈ es, okA x) : addT iJoin l es = addT rJoin l es :=
  add_congr okF_join (fun u v _ _ hv _ => join_eq hv) hl he
def oneO (f : I → I → I) (k : Ky) (o : Option I) (e : En) : Option I := if empB (vl e) then o else if ky e = k then some (optV f o (vl e)) else o
theorem stp_get {f : I → I → I} {l : List En} (hs : srt l) (e : En) (k : Ky) : tget (stpT f l e) k = oneO f k (tget l k) e := by
  unfold stpT oneO
  split
  · rfl
  · exact put_get hs k
theorem add_get {f : I → I → I} (k : Ky) : ∀ {es l : List En}, srt l → tget (addT f l es) k = es.foldl (oneO f k) (tget l k)
  | [], l, _ => rfl
  | e :: r, l, hs => by
    show tget (addT f (stpT f l e) r) k = r.foldl (oneO f k) (oneO f k (tget l k) e)
    rw [add_get k (es := r) (step_srt hs), stp_get hs]
theorem fold_none {f : I → I → I} {k : Ky} : ∀ {es : List En} {o : Option I}, (∀ e ∈ es, ky e ≠ k) → es.foldl (oneO f k) o = o
  | [], _, _ => rfl
  | e :: r, o, h => by
    rw [List.foldl_cons]
    have : oneO f k o e = o := by
      unfold oneO
      rw [if_neg (h e (List.mem_cons_self ..))]
      split <;> rfl
    rw [this]
    exact fold_none fun x hx => h x (List.mem_cons_of_mem _ hx)
def bothO (f : I → I → I) (o p : Option I) : Option I := match p with | none => o | some v => some (optV f o v)
theorem add_tab {f : I → I → I} (k : Ky) : ∀ {b a : List En}, srt b → (∀ x ∈ b, entOK x) → srt a → tget (addT f a b) k = bothO f (tget a k) (tget b k)
  | [], a, _, _, _ => rfl
  | d :: r, a, hb, hk, ha => by
    have h := List.pairwise_cons.1 hb
    have kd := hk d (List.mem_cons_self ..)
    rw [add_get k ha, List.foldl_cons, tget_cons]
    by_cases e : ky d = k
    · rw [if_pos e, fold_none (fun x hx q => ltK_irr (by have := h.1 x hx; rwa [q, e] at this))]
      unfold oneO
      rw [if_neg (by rw [show empB (vl d) = false from kd.n]; decide), if_pos e]; rfl
    · rw [if_neg e]
      have : oneO f k (tget a k) d = tget a k := by unfold oneO; rw [if_neg e]; split <;> rfl
      rw [this, ← add_get k ha]
      exact add_tab k h.2 (fun x hx => hk x (List.mem_cons_of_mem _ hx)) ha
theorem map_srt {g : En → En} (hg : ∀ e, ky (g e) = ky e) {l : List En} (h : srt l) : srt (l.map g) := by
  unfold srt
  rw [List.pairwise_map]
  exact h.imp fun h => by rw [hg, hg]; exact h
theorem map_get {g : En → En} (hg : ∀ e, ky (g e) = ky e) (k : Ky) : ∀ {l : List En}, tget (l.map g) k = (l.find? fun e => ky e == k).map fun e => vl (g e)
  | [] => rfl
  | d :: r => by
    rw [List.map_cons, tget_cons, hg, List.find?_cons]
    by_cases e : ky d = k
    · rw [if_pos e, show (ky d == k) = true from beq_iff_eq.2 e]; rfl
    · rw [if_neg e, show (ky d == k) = false from beq_eq_false_iff_ne.2 e]; exact map_get hg k
theorem wid_same {a b : List En} {st : List Int} (ha : tabOK a) (hb : tabOK b) : (addT rJoin a b).map (setW a b st) = addT (widF st) a b := by
  have hk : ∀ e, ky (setW a b st e) = ky e := fun e => by unfold setW; split <;> rfl
  refine tab_ext (map_srt hk (add_srt ha.srt)) (add_srt ha.srt) fun k => ?_
  rw [map_get hk, add_tab k hb.srt hb.e ha.srt]
  have hj : tget (addT rJoin a b) k = bothO rJoin (tget a k) (tget b k) := add_tab k hb.srt hb.e ha.srt
  unfold tget at hj ⊢
  cases hf : (addT rJoin a b).find? fun e => ky e == k with
  | none =>
    rw [hf] at hj
    cases hB : b.find? fun e => ky e == k with
    | none => rw [hB] at hj; exact hj
    | some y => rw [hB] at hj; cases hj
  | some z =>
    rw [hf] at hj
    have hz : ky z = k := beq_iff_eq.1 (List.find?_some (p := fun e => ky e == k) hf)
    simp only [Option.map_some] at hj ⊢
    unfold setW
    rw [hz]
    unfold tget
    cases hB : b.find? fun e => ky e == k with
    | none =>
      rw [hB] at hj
      cases hA : a.find? fun e => ky e == k with
      | none => rw [hA] at hj; cases hj
      | some x => rw [hA] at hj; exact hj
    | some y =>
      rw [hB] at hj
      cases hA : a.find? fun e => ky e == k with
      | none => rw [hA] at hj; exact hj
      | some x =>
        simp only [Option.map_some, bothO, optV]
        congr 1
        show rwidV (vl x) (vl y) st = widV (vl x) (vl y) st
        exact (wid_eq (ha.e x (List.mem_of_find?_eq_some hA)).v (hb.e y (List.mem_of_find?_eq_some hB)).v st).symm
theorem below_get {b : List En} (hb : srt b) (e : En) : belowB b e = (tget b (ky e)).elim false fun v => leqB (vl e) v := by
  cases hf : fndT e b
  · rw [(fnd_tget hb e).2 hf]; unfold belowB; rw [hf]; rfl
  · obtain ⟨d, hd, hg⟩ := (fnd_tget hb e).1 hf
    rw [hg]; unfold belowB; rw [hf, hd]; rfl
theorem leqT_iff {a b : List En} (hb : srt b) : leqTB a b = true ↔ ∀ e ∈ a, ∃ v, tget b (ky e) = some v ∧ leqB (vl e) v = true := by
  unfold leqTB
  rw [List.all_eq_true]
  refine ⟨fun h e he => ?_, fun h e he => ?_⟩
  · have := h e he
    rw [below_get hb] at this
    cases hg : tget b (ky e) with
    | none => rw [hg] at this; cases this
    | some v => rw [hg] at this; exact ⟨v, rfl, this⟩
  · obtain ⟨v, hv, hl⟩ := h e he
    rw [below_get hb, hv]; exact hl
def leG (a b : List En) : Prop := ∀ k u, tget a k = some u → ∃ v, tget b k = some v ∧ leqB u v = true
theorem leqT_of {a b : List En} (ha : srt a) (hb : srt b) (h : leG a b) : leqTB a b = true :=
  (leqT_iff hb).2 fun e he => h (ky e) (vl e) (mem_tget ha he)
theorem leG_T {a b : List En} (hb : srt b) (ha : srt a) (h : leG a b) : leT a b := fun e he => by
  obtain ⟨v, h1, h2⟩ := h (ky e) (vl e) (mem_tget ha he)
  obtain ⟨d, hd, hk, rfl⟩ := tget_mem h1
  simp only [ky, Prod.mk.injEq] at hk
  exact ⟨d, hd, hk, h2⟩
theorem leG_refl (a : List En) : leG a a := fun k u h => ⟨u, h, leq_self u⟩
theorem leG_trans {a b c : List En} (h : leG a b) (h' : leG b c) : leG a c := fun k u hu => by
  obtain ⟨v, hv, l⟩ := h k u hu
  obtain ⟨w, hw, l'⟩ := h' k v hv
  exact ⟨w, hw, leq_trans l l'⟩
def upF (f : I → I → I) : Prop := ∀ u v, isB u = true → isB v = true → leqB u (f u v) = true ∧ leqB v (f u v) = true
theorem upF_join : upF iJoin := fun u v _ _ => ⟨join_l u v, join_r2 u v⟩
theorem upF_wid (st : List Int) : upF (widF st) := fun u v hu hv => ⟨(wid_step hu hv st).1, (wid_step hu hv st).2.1⟩
theorem get_is {l : List En} (h : ∀ x ∈ l, entOK x) {k : Ky} {u : I} (hu : tget l k = some u) : isB u = true ∧ empB u = false := by
  obtain ⟨d, hd, _, rfl⟩ := tget_mem hu
  exact ⟨(h d hd).v, (h d hd).n⟩
theorem up_l {f : I → I → I} (hf : upF f) {a b : List En} (ha : tabOK a) (hb : tabOK b) : leG a (addT f a b) := fun k u hu => by
  rw [add_tab k hb.srt hb.e ha.srt, hu]
  cases hv : tget b k with
  | none => exact ⟨u, rfl, leq_self u⟩
  | some v => exact ⟨_, rfl, (hf u v (get_is ha.e hu).1 (get_is hb.e hv).1).1⟩
theorem up_r {f : I → I → I} (hf : upF f) {a b : List En} (ha : tabOK a) (hb : tabOK b) : leG b (addT f a b) := fun k v hv => by
  rw [add_tab k hb.srt hb.e ha.srt, hv]
  cases hu : tget a k with
  | none => exact ⟨v, rfl, leq_self v⟩
  | some u => exact ⟨_, rfl, (hf u v (get_is ha.e hu).1 (get_is hb.e hv).1).2⟩
theorem tabOK_of {l : List En} (h : ∀ x ∈ l, entOK x) (hs : srt l) : tabOK l := isTabB_ok (isTab_of h hs)
theorem tab_add {f : I → I → I} (hf : okF f) {a b : List En} (ha : tabOK a) (hb : ∀ x ∈ b, okA x) : tabOK (addT f a b) := tabOK_of (add_ok hf ha.e hb) (add_srt ha.srt)
theorem tabOK.a {l : List En} (h : tabOK l) : ∀ x ∈ l, okA x := fun x hx => (h.e x hx).a
theorem join_comm_tab {a b : List En} (ha : tabOK a) (hb : tabOK b) : addT iJoin a b = addT iJoin b a := by
  refine tab_ext (add_srt ha.srt) (add_srt hb.srt) fun k => ?_
  rw [add_tab k hb.srt hb.e ha.srt, add_tab k ha.srt ha.e hb.srt]
  cases tget a k <;> cases tget b k <;> simp [bothO, optV, join_comm]
theorem le_both {f g : I → I → I} (h : ∀ u v, isB u = true → empB u = false → isB v = true → empB v = false → leqB (f u v) (g u v) = true) {a b : List En} (ha : tabOK a) (hb : tabOK b) : leG (addT f a b) (addT g a b) := fun k w hw => by
  rw [add_tab k hb.srt hb.e ha.srt] at hw ⊢
  cases hv : tget b k with
  | none => rw [hv] at hw; exact ⟨w, hw, leq_self w⟩
  | some v =>
    rw [hv] at hw
    obtain ⟨kv, ev⟩ := get_is hb.e hv
    cases hu : tget a k with
    | none => rw [hu] at hw; exact ⟨w, hw, leq_self w⟩
    | some u =>
      rw [hu] at hw
      obtain ⟨ku, eu⟩ := get_is ha.e hu
      cases hw
      exact ⟨_, rfl, h u v ku eu kv ev⟩
theorem join_le_wid (st : List Int) (u v : I) (hu : isB u = true) (eu : empB u = false) (hv : isB v = true) (ev : empB v = false) : leqB (iJoin u v) (widF st u v) = true := by
  rw [join_le, (upF_wid st u v hu hv).1, (upF_wid st u v hu hv).2]; rfl
theorem n_law12_tables (ls : List (List En)) (hn : ls.length < 9223372036854775807) : ∃ b, g_law12_tables ls = some b ∧ (b = true → ∀ l ∈ ls, l.length ≤ 60 ∧ tabOK l) := by
  have h : ∀ j d, bd_law12_tables_12_0_0 ls j d = bif (!decide ((d.length : Int) > 60) && isTabB d) then some (.inl ()) else some (.inr (.inr false)) := fun j d => by
    unfold bd_law12_tables_12_0_0 G_ref12_Is
    by_cases hd : (d.length : Int) > 60
    · rw [decide_eq_true hd]; rfl
    · rw [decide_eq_false hd]
      simp only [cond_false, n_ref12_Is d (by omega), optC_some, Bool.not_false, Bool.true_and]
      cases isTabB d <;> rfl
  obtain ⟨k, hk⟩ := range_all (f := fun i _ d => bd_law12_tables_12_0_0 ls i d) (fin := fun _ => fn_law12_tables_12_0_0 ls) (p := fun d => !decide ((d.length : Int) > 60) && isTabB d) (out := fun _ => .inr false) h ls 0
  unfold g_law12_tables
  rw [rg_law12_tables_12_0_0 ls () hn]
  unfold rv_law12_tables_12_0_0
  rw [hk]
  cases hq : ls.all fun d => !decide ((d.length : Int) > 60) && isTabB d
  · exact ⟨false, rfl, fun h => nomatch h⟩
  · refine ⟨true, rfl, fun _ l hl => ?_⟩
    have := List.all_eq_true.1 hq l hl
    simp only [Bool.and_eq_true, Bool.not_eq_true', decide_eq_false_iff_not] at this
    exact ⟨by omega, isTabB_ok this.2⟩
end Go.Proofs.Ytbdcblpjemmipaa.Ex

namespace Go.Proofs.Ytbdcblpjemmipaa.Ex
open Go.Proofs Go.Proofs.Ytbdcblpjemmipaa
set_option maxRecDepth 100000
set_option maxHeartbeats 2000000
set_option linter.unusedVariables false
set_option linter.unusedSimpArgs false
def ash_law12_known : List Sh := []
noncomputable def sp_law12_known : Nat → Option (List AV → Prog AV)
  | 20 => some (con_tab_Add)
  | 13 => some (con_tab_Seen)
  | 49 => some (con_ref2_Empty)
  | _ => none
theorem hsp_law12_known : ∀ g p, sp_law12_known g = some p → SoundA Try.prog g p := by
  intro g p h
  unfold sp_law12_known at h
  split at h
  · cases h; exact snd_tab_Add
  · cases h; exact snd_tab_Seen
  · cases h; exact snd_ref2_Empty
  · cases h
noncomputable def cx_law12_known : Ctx := { tab := tab, spec := sp_law12_known, inl := inl, lps := fun _ _ => none, fuel := 40 }
theorem in_law12_known : InlOk Try.prog cx_law12_known := ⟨inl_ok, fun _ _ _ _ _ _ _ _ h => nomatch h⟩
theorem cal_law12_known (g : Nat) : SoundA Try.prog g (evF cx_law12_known keeps 8 g) := evF_sound (tabOk_of tab_ok) (cmpsOk_of tab_ok cmps_ok) mixed in_law12_known hsp_law12_known keeps 8 g
noncomputable def g_law12_known  : Option Bool :=
  some (decide (1 > 0))
theorem raw_law12_known  : evGX cx_law12_known keeps 8 18 ash_law12_known (.dat .bool) (() : Unit) = g_law12_known  := by kernel_rfl
noncomputable def G_law12_known (x : Unit) : Option Bool := g_law12_known 
noncomputable def con_law12_known : List AV → Prog AV := conP true ash_law12_known (.dat .bool) G_law12_known
theorem snd_law12_known : SoundA Try.prog 18 con_law12_known := conP_sound (cal_law12_known 18) true (by rfl) (by rfl) (fun x r e => (evGX_eq _ _ _ _ _ _ _).trans ((raw_law12_known ).trans e)) (.inl rfl)
end Go.Proofs.Ytbdcblpjemmipaa.Ex

namespace Go.Proofs.Ytbdcblpjemmipaa.Ex
open Go.Proofs Go.Proofs.Ytbdcblpjemmipaa
set_option maxRecDepth 100000
set_option maxHeartbeats 2000000
set_option linter.unusedVariables false
set_option linter.unusedSimpArgs false
def ash_law12_TabAbove : List Sh := [.dat (.sl tEn), .dat (.sl tEn), .dat (.sl (.int .i64))]
noncomputable def sp_law12_TabAbove : Nat → Option (List AV → Prog AV)
  | 12 => some (con_law12_tables)
  | 17 => some (con_tab_Join)
  | 24 => some (con_tab_Widen)
  | 23 => some (con_tab_Leq)
  | 22 => some (con_tab_Same)
  | 21 => some (con_ref12_Is)
  | 18 => some (con_law12_known)
  | _ => none
theorem hsp_law12_TabAbove : ∀ g p, sp_law12_TabAbove g = some p → SoundA Try.prog g p := by
  intro g p h
  unfold sp_law12_TabAbove at h
  split at h
  · cases h; exact snd_law12_tables
  · cases h; exact snd_tab_Join
  · cases h; exact snd_tab_Widen
  · cases h; exact snd_tab_Leq
  · cases h; exact snd_tab_Same
  · cases h; exact snd_ref12_Is
  · cases h; exact snd_law12_known
  · cases h
noncomputable def cx_law12_TabAbove : Ctx := { tab := tab, spec := sp_law12_TabAbove, inl := inl, lps := fun _ _ => none, fuel := 40 }
theorem in_law12_TabAbove : InlOk Try.prog cx_law12_TabAbove := ⟨inl_ok, fun _ _ _ _ _ _ _ _ h => nomatch h⟩
theorem cal_law12_TabAbove (g : Nat) : SoundA Try.prog g (evF cx_law12_TabAbove keeps 8 g) := evF_sound (tabOk_of tab_ok) (cmpsOk_of tab_ok cmps_ok) mixed in_law12_TabAbove hsp_law12_TabAbove keeps 8 g
noncomputable def g_law12_TabAbove (a0 : (List En)) (a1 : (List En)) (a2 : (List Int)) : Option Bool :=
  optC (G_law12_tables ([a0, a1], ())) none fun d4 ↦
 bif !d4 then some true
 else
 bif decide ((↑a2.length : Int) > 60) then some true
 else
 optC (G_tab_Join (a0, a1, ())) none fun d5 ↦
 optC (G_tab_Widen (a0, a1, a2, ())) none fun d6 ↦
 optC (G_tab_Leq (a0, d5, ())) none fun d7 ↦
 bif d7 then
 optC (G_tab_Leq (a1, d5, ())) none fun d8 ↦
 bif d8 then
 optC (G_tab_Leq (a0, d6, ())) none fun d9 ↦
 bif d9 then
 optC (G_tab_Leq (a1, d6, ())) none fun d10 ↦
 bif d10 then
 optC (G_tab_Join (a1, a0, ())) none fun d11 ↦
 optC (G_tab_Same (d5, d11, ())) none fun d12 ↦
 bif d12 then
 optC (G_ref12_Is (d5, ())) none fun d13 ↦
 bif d13 then
 optC (G_ref12_Is (d6, ())) none fun d14 ↦
 bif d14 then optC (G_tab_Leq (d5, d6, ())) none fun d15 ↦ bif d15 then some (decide (1 > 0)) else some false
 else some false
 else some false
 else some false
 else some false
 else some false
 else some false
 else some false
theorem raw_law12_TabAbove (a0 : (List En)) (a1 : (List En)) (a2 : (List Int)) : evGX cx_law12_TabAbove keeps 8 5 ash_law12_TabAbove (.dat .bool) ((a0, a1, a2, ()) : ((List En) × ((List En) × ((List Int) × Unit)))) = g_law12_TabAbove a0 a1 a2 := by kernel_rfl
noncomputable def G_law12_TabAbove (x : ((List En) × ((List En) × ((List Int) × Unit)))) : Option Bool := g_law12_TabAbove x.1 x.2.1 x.2.2.1
noncomputable def con_law12_TabAbove : List AV → Prog AV := conP true ash_law12_TabAbove (.dat .bool) G_law12_TabAbove
theorem snd_law12_TabAbove : SoundA Try.prog 5 con_law12_TabAbove := conP_sound (cal_law12_TabAbove 5) true (by rfl) (by rfl) (fun x r e => (evGX_eq _ _ _ _ _ _ _).trans ((raw_law12_TabAbove x.1 x.2.1 x.2.2.1).trans e)) (.inl rfl)
end Go.Proofs.Ytbdcblpjemmipaa.Ex

namespace Go.Proofs.Ytbdcblpjemmipaa.Ex
open Go.Proofs Go.Proofs.Ytbdcblpjemmipaa
set_option maxRecDepth 100000
set_option maxHeartbeats 2000000
set_option linter.unusedVariables false
set_option linter.unusedSimpArgs false
abbrev ty_178_0 : Type := (((List En) × ((List En) × ((List En) × ((List Int) × (Int × (Bool × (Int × (Int × (Int × (Unit × Unit)))))))))) × Unit)
abbrev ty_178_1 : Type := (((List En) × ((List En) × ((List En) × ((List Int) × (Int × (Bool × (Int × (Int × (Int × (Bool × Unit)))))))))) × Unit)
abbrev ty_178_2 : Type := (((List En) × ((List En) × ((List En) × ((List Int) × (Int × (Bool × (Int × (Int × (Int × (Int × Unit)))))))))) × Unit)
abbrev ty_178_3 : Type := ((List En) × ((List En) × ((List En) × ((List Int) × (Int × (Bool × (Int × (Int × (Int × Unit)))))))))
abbrev ty_178_4 : Type := ((List En) × (List En) × (List En) × (List Int) × Int × Bool × Int × Int × Int × Bool)
abbrev ty_178_5 : Type := ((List En) × (List En) × (List En) × (List Int) × Int × Bool × Int × Int × Int × Int)
abbrev ty_178_6 : Type := ((List En) × (List En) × (List En) × (List Int) × Int × Bool × Int × Int × Int)
abbrev fn_178_0 := (fun (d : ty_178_2) => ((d.1.1, d.1.2.1, d.1.2.2.1, d.1.2.2.2.1, d.1.2.2.2.2.1, d.1.2.2.2.2.2.1, d.1.2.2.2.2.2.2.1, d.1.2.2.2.2.2.2.2.1, d.1.2.2.2.2.2.2.2.2.1, d.1.2.2.2.2.2.2.2.2.2.1) : ty_178_5))
abbrev fn_178_1 := (fun (x : ty_178_4) => (((x.1, x.2.1, x.2.2.1, x.2.2.2.1, x.2.2.2.2.1, x.2.2.2.2.2.1, x.2.2.2.2.2.2.1, x.2.2.2.2.2.2.2.1, x.2.2.2.2.2.2.2.2.1, x.2.2.2.2.2.2.2.2.2, ()), ()) : ty_178_1))
abbrev fn_178_2 := (fun (x : ty_178_6) => (((x.1, x.2.1, x.2.2.1, x.2.2.2.1, x.2.2.2.2.1, x.2.2.2.2.2.1, x.2.2.2.2.2.2.1, x.2.2.2.2.2.2.2.1, x.2.2.2.2.2.2.2.2, (), ()), ()) : ty_178_0))
def ash_law12_TabTells : List Sh := [.dat (.sl tEn), .dat (.sl tEn), .dat (.sl tEn), .dat (.sl (.int .i64)), .dat (.int .i64), .dat .bool, .dat (.int .i64), .dat (.int .i64), .dat (.int .i64)]
def kp_law12_TabTells_7_0 : Nat → List Nat := fun c => bif c.beq 0 then [0, 1, 2, 3, 4, 5, 6, 7, 8, 19] else [0, 1, 2, 3, 4, 5, 6, 7, 8, 18]
noncomputable def sp_law12_TabTells : Nat → Option (List AV → Prog AV)
  | 12 => some (con_law12_tables)
  | 19 => some (con_ref2_Is)
  | 20 => some (con_tab_Add)
  | 26 => some (con_ref12_Add)
  | 25 => some (con_ref12_Same)
  | 17 => some (con_tab_Join)
  | 24 => some (con_tab_Widen)
  | 27 => some (con_ref12_Widen)
  | 13 => some (con_tab_Seen)
  | 28 => some (con_ref12_Seen)
  | 14 => some (con_tab_Gained)
  | 29 => some (con_ref12_Gained)
  | 23 => some (con_tab_Leq)
  | 30 => some (con_ref12_Leq)
  | 22 => some (con_tab_Same)
  | 18 => some (con_law12_known)
  | _ => none
theorem hsp_law12_TabTells : ∀ g p, sp_law12_TabTells g = some p → SoundA Try.prog g p := by
  intro g p h
  unfold sp_law12_TabTells at h
  split at h
  · cases h; exact snd_law12_tables
  · cases h; exact snd_ref2_Is
  · cases h; exact snd_tab_Add
  · cases h; exact snd_ref12_Add
  · cases h; exact snd_ref12_Same
  · cases h; exact snd_tab_Join
  · cases h; exact snd_tab_Widen
  · cases h; exact snd_ref12_Widen
  · cases h; exact snd_tab_Seen
  · cases h; exact snd_ref12_Seen
  · cases h; exact snd_tab_Gained
  · cases h; exact snd_ref12_Gained
  · cases h; exact snd_tab_Leq
  · cases h; exact snd_ref12_Leq
  · cases h; exact snd_tab_Same
  · cases h; exact snd_law12_known
  · cases h
noncomputable def cx_law12_TabTells0 : Ctx := { tab := tab, spec := sp_law12_TabTells, inl := inl, lps := fun _ _ => none, fuel := 40 }
theorem in_law12_TabTells0 : InlOk Try.prog cx_law12_TabTells0 := ⟨inl_ok, fun _ _ _ _ _ _ _ _ h => nomatch h⟩
theorem cal_law12_TabTells0 (g : Nat) : SoundA Try.prog g (evF cx_law12_TabTells0 keeps 8 g) := evF_sound (tabOk_of tab_ok) (cmpsOk_of tab_ok cmps_ok) mixed in_law12_TabTells0 hsp_law12_TabTells keeps 8 g
noncomputable def F_law12_TabTells_7_0 (base : Nat) : Tm → Prog (Nat × Tm) := evC cx_law12_TabTells0 (evF cx_law12_TabTells0 keeps 8) ⟨7, 152, keeps 7, base⟩ 0 (bodyX 7 0)
def s_law12_TabTells_7_0_0 : StS := ⟨[(0, .sl tEn), (1, .sl tEn), (2, .sl tEn), (3, .sl (.int .i64)), (4, .int .i64), (5, .bool), (6, .int .i64), (7, .int .i64), (8, .int .i64), (19, .int .i64)], [], 0⟩
def x_law12_TabTells_7_0_0_0 : StS := ⟨[(0, .sl tEn), (1, .sl tEn), (2, .sl tEn), (3, .sl (.int .i64)), (4, .int .i64), (5, .bool), (6, .int .i64), (7, .int .i64), (8, .int .i64), (18, .undef)], [], 0⟩
def x_law12_TabTells_7_0_0_1 : StS := ⟨[(0, .sl tEn), (1, .sl tEn), (2, .sl tEn), (3, .sl (.int .i64)), (4, .int .i64), (5, .bool), (6, .int .i64), (7, .int .i64), (8, .int .i64), (18, .bool)], [], 0⟩
noncomputable def st_law12_TabTells_7_0_0 (s0 : (List En)) (s1 : (List En)) (s2 : (List En)) (s3 : (List Int)) (s4 : Int) (s5 : Bool) (s6 : Int) (s7 : Int) (s8 : Int) (s19 : Int) : Option (ty_178_5 ⊕ (ty_178_6 ⊕ ty_178_4)) :=
  bif decide (s19 < (↑s2.length : Int)) then
 bif decide (0 ≤ s19) then
 optC s2[s19.toNat]? none fun d12 ↦
 optC (G_ref2_Is (d12.2.2.2.2, ())) none fun d13 ↦
 bif !d13 then some (Sum.inr (Sum.inr (s0, s1, s2, s3, s4, s5, s6, s7, s8, true)))
 else
 bif decide (0 ≤ s19) then
 optC s2[s19.toNat]? none fun d14 ↦
 bif decide (d14.2.2.2.1 < 0) then some (Sum.inr (Sum.inr (s0, s1, s2, s3, s4, s5, s6, s7, s8, true)))
 else
 bif decide (0 ≤ s19) then
 optC s2[s19.toNat]? none fun d15 ↦
 bif decide (d15.2.2.2.1 ≥ 2147483648) then some (Sum.inr (Sum.inr (s0, s1, s2, s3, s4, s5, s6, s7, s8, true)))
 else some (Sum.inl (s0, s1, s2, s3, s4, s5, s6, s7, s8, Go.IntKind.i64.wrap (s19 + 1)))
 else none
 else none
 else none
 else some (Sum.inr (Sum.inl (s0, s1, s2, s3, s4, s5, s6, s7, s8)))
theorem rn_law12_TabTells_7_0_0 (s0 : (List En)) (s1 : (List En)) (s2 : (List En)) (s3 : (List Int)) (s4 : Int) (s5 : Bool) (s6 : Int) (s7 : Int) (s8 : Int) (s19 : Int) : rdX cx_law12_TabTells0 keeps 8 ⟨7, 152, keeps 7, 0⟩ 0 (bodyX 7 0) 0 kp_law12_TabTells_7_0 (sT s_law12_TabTells_7_0_0 ((s0, s1, s2, s3, s4, s5, s6, s7, s8, s19, ()), ())) (sH s_law12_TabTells_7_0_0 ((s0, s1, s2, s3, s4, s5, s6, s7, s8, s19, ()), ())) (rdO (fun T h => (rdS s_law12_TabTells_7_0_0 T h).map fn_178_0) (getOr (getE 2 x_law12_TabTells_7_0_0_0 (fun (d : ty_178_0) => ((d.1.1, d.1.2.1, d.1.2.2.1, d.1.2.2.2.1, d.1.2.2.2.2.1, d.1.2.2.2.2.2.1, d.1.2.2.2.2.2.2.1, d.1.2.2.2.2.2.2.2.1, d.1.2.2.2.2.2.2.2.2.1) : ty_178_6))) (getE 1 x_law12_TabTells_7_0_0_1 (fun (d : ty_178_1) => ((d.1.1, d.1.2.1, d.1.2.2.1, d.1.2.2.2.1, d.1.2.2.2.2.1, d.1.2.2.2.2.2.1, d.1.2.2.2.2.2.2.1, d.1.2.2.2.2.2.2.2.1, d.1.2.2.2.2.2.2.2.2.1, d.1.2.2.2.2.2.2.2.2.2.1) : ty_178_4))))) = st_law12_TabTells_7_0_0 s0 s1 s2 s3 s4 s5 s6 s7 s8 s19 := by kernel_rfl
noncomputable def L_law12_TabTells_7_0_0 (x : ty_178_5) : Option (ty_178_6 ⊕ ty_178_4) := iterO (fun x => st_law12_TabTells_7_0_0 x.1 x.2.1 x.2.2.1 x.2.2.2.1 x.2.2.2.2.1 x.2.2.2.2.2.1 x.2.2.2.2.2.2.1 x.2.2.2.2.2.2.2.1 x.2.2.2.2.2.2.2.2.1 x.2.2.2.2.2.2.2.2.2) FUEL x
noncomputable def q_law12_TabTells_7_0 : Nat → Tm → Prog (Nat × Tm) := (varP 0 (fun T h => (rdS s_law12_TabTells_7_0_0 T h).map fn_178_0) L_law12_TabTells_7_0_0 (fun y => .alt y (altE 2 x_law12_TabTells_7_0_0_0 fn_178_2) (altE 1 x_law12_TabTells_7_0_0_1 fn_178_1)) (fun _ _ => .fail))
theorem ok_law12_TabTells_7_0 : VarOk kp_law12_TabTells_7_0 F_law12_TabTells_7_0 q_law12_TabTells_7_0 := (varX_ok (s := s_law12_TabTells_7_0_0) (un := (fun (x : ty_178_5) => (((x.1, x.2.1, x.2.2.1, x.2.2.2.1, x.2.2.2.2.1, x.2.2.2.2.2.1, x.2.2.2.2.2.2.1, x.2.2.2.2.2.2.2.1, x.2.2.2.2.2.2.2.2.1, x.2.2.2.2.2.2.2.2.2, ()), ()) : ty_178_2))) (by rfl) (fun _ => rfl) (getOr_ok (getE_ok (s := x_law12_TabTells_7_0_0_0) (un := fn_178_2) (by rfl) (fun _ => rfl)) (getE_ok (s := x_law12_TabTells_7_0_0_1) (un := fn_178_1) (by rfl) (fun _ => rfl))) (step := fun x => st_law12_TabTells_7_0_0 x.1 x.2.1 x.2.2.1 x.2.2.2.1 x.2.2.2.2.1 x.2.2.2.2.2.1 x.2.2.2.2.2.2.1 x.2.2.2.2.2.2.2.1 x.2.2.2.2.2.2.2.2.1 x.2.2.2.2.2.2.2.2.2) (fun x => rn_law12_TabTells_7_0_0 x.1 x.2.1 x.2.2.1 x.2.2.2.1 x.2.2.2.2.1 x.2.2.2.2.2.1 x.2.2.2.2.2.2.1 x.2.2.2.2.2.2.2.1 x.2.2.2.2.2.2.2.2.1 x.2.2.2.2.2.2.2.2.2) (fun _ _ e => ⟨_, e⟩) (altOr_ok (altE_ok 2 x_law12_TabTells_7_0_0_0 fn_178_2) (altE_ok 1 x_law12_TabTells_7_0_0_1 fn_178_1)) (VarOk.fail _ _))
noncomputable def lpI_law12_TabTells_7_0 (base : Nat) (T : Tm) : Prog (Nat × Tm) := .norm base (kp_law12_TabTells_7_0 0) T (q_law12_TabTells_7_0 base)
theorem sndI_law12_TabTells_7_0 : SoundC Try.prog 152 (.loop (bodyX 7 0)) lpI_law12_TabTells_7_0 := loopK_sound (cx := cx_law12_TabTells0) (cal := evF cx_law12_TabTells0 keeps 8) (kp := keeps 7) (tabOk_of tab_ok) (cmpsOk_of tab_ok cmps_ok) cal_law12_TabTells0 mixed (hl_of (g := 7) (b := 0) in_law12_TabTells0 (by kernel_rfl) (by kernel_rfl)) ok_law12_TabTells_7_0
noncomputable def lpL_law12_TabTells_7_0 : Nat → Tm → Prog (Nat × Tm) := lpI_law12_TabTells_7_0
theorem sndL_law12_TabTells_7_0 : SoundC Try.prog 152 (.loop (bodyX 7 0)) lpL_law12_TabTells_7_0 := sndI_law12_TabTells_7_0
noncomputable def lp_law12_TabTells : Nat → Nat → Option (Nat → Tm → Prog (Nat × Tm))
  | 7, 0 => some lpL_law12_TabTells_7_0
  | _, _ => none
noncomputable def cx_law12_TabTells : Ctx := { tab := tab, spec := sp_law12_TabTells, inl := inl, lps := lp_law12_TabTells, fuel := 40 }
theorem in_law12_TabTells : InlOk Try.prog cx_law12_TabTells := ⟨inl_ok, fun g fn c hg hb q hq p hp => by
  change lp_law12_TabTells g q.1 = some p at hp
  change inl g = some fn at hg
  generalize hq1 : q.1 = b at hp
  unfold lp_law12_TabTells at hp
  split at hp
  · cases hp; exact lps_case (inl := inl) hg hb hq hq1 (by kernel_rfl) (by kernel_rfl) sndL_law12_TabTells_7_0
  · cases hp⟩
theorem cal_law12_TabTells (g : Nat) : SoundA Try.prog g (evF cx_law12_TabTells keeps 8 g) := evF_sound (tabOk_of tab_ok) (cmpsOk_of tab_ok cmps_ok) mixed in_law12_TabTells hsp_law12_TabTells keeps 8 g
noncomputable def g_law12_TabTells (a0 : (List En)) (a1 : (List En)) (a2 : (List En)) (a3 : (List Int)) (a4 : Int) (a5 : Bool) (a6 : Int) (a7 : Int) (a8 : Int) : Option Bool :=
  optC (G_law12_tables ([a0, a1], ())) none fun d11 ↦
 bif !d11 then some true
 else
 bif decide ((↑a2.length : Int) > 40) then some true
 else
 bif decide ((↑a3.length : Int) > 60) then some true
 else
 bif decide (a7 < 0) then some true
 else
 bif decide (a7 ≥ 2147483648) then some true
 else
 optC (L_law12_TabTells_7_0_0 (a0, a1, a2, a3, a4, a5, a6, a7, a8, 0)) none fun d12 ↦
 Sum.elim
 (fun e13 ↦
 optC (G_tab_Add (e13.1, e13.2.2.1, ())) none fun d14 ↦
 optC (G_ref12_Add (e13.1, e13.2.2.1, ())) none fun d15 ↦
 optC (G_ref12_Same (d14, d15, ())) none fun d16 ↦
 bif d16 then
 optC (G_tab_Join (e13.1, e13.2.1, ())) none fun d17 ↦
 optC (G_ref12_Add (e13.1, e13.2.1, ())) none fun d18 ↦
 optC (G_ref12_Same (d17, d18, ())) none fun d19 ↦
 bif d19 then
 optC (G_tab_Widen (e13.1, e13.2.1, e13.2.2.2.1, ())) none fun d20 ↦
 optC (G_ref12_Widen (e13.1, e13.2.1, e13.2.2.2.1, ())) none fun d21 ↦
 optC (G_ref12_Same (d20, d21, ())) none fun d22 ↦
 bif d22 then
 optC
 (G_tab_Seen (e13.1, e13.2.2.2.2.1, e13.2.2.2.2.2.1, e13.2.2.2.2.2.2.1, e13.2.2.2.2.2.2.2.1, ()))
 none fun d23 ↦
 optC
 (G_ref12_Seen
 (e13.1, e13.2.2.2.2.1, e13.2.2.2.2.2.1, e13.2.2.2.2.2.2.1, e13.2.2.2.2.2.2.2.1, ()))
 none fun d24 ↦
 bif d23.1 == d24.1 && d23.2 == d24.2 then
 optC
 (G_tab_Gained
 (e13.1, e13.2.2.2.2.1, e13.2.2.2.2.2.1, e13.2.2.2.2.2.2.1, e13.2.2.2.2.2.2.2.1,
 e13.2.2.2.2.2.2.2.2, ()))
 none fun d25 ↦
 optC
 (G_ref12_Gained
 (e13.1, e13.2.2.2.2.1, e13.2.2.2.2.2.1, e13.2.2.2.2.2.2.1, e13.2.2.2.2.2.2.2.1,
 e13.2.2.2.2.2.2.2.2, ()))
 none fun d26 ↦
 bif d25.1 == d26.1 && d25.2 == d26.2 then
 optC (G_tab_Leq (e13.1, e13.2.1, ())) none fun d27 ↦
 optC (G_ref12_Leq (e13.1, e13.2.1, ())) none fun d28 ↦
 bif d27 == d28 then
 optC (G_tab_Same (e13.1, e13.2.1, ())) none fun d29 ↦
 optC (G_ref12_Same (e13.1, e13.2.1, ())) none fun d30 ↦
 bif d29 == d30 then some (decide (1 > 0)) else some false
 else some false
 else some false
 else some false
 else some false
 else some false
 else some false)
 (fun e13 ↦ some e13.2.2.2.2.2.2.2.2.2) d12
theorem raw_law12_TabTells (a0 : (List En)) (a1 : (List En)) (a2 : (List En)) (a3 : (List Int)) (a4 : Int) (a5 : Bool) (a6 : Int) (a7 : Int) (a8 : Int) : evGX cx_law12_TabTells keeps 8 7 ash_law12_TabTells (.dat .bool) ((a0, a1, a2, a3, a4, a5, a6, a7, a8, ()) : ty_178_3) = g_law12_TabTells a0 a1 a2 a3 a4 a5 a6 a7 a8 := by kernel_rfl
noncomputable def G_law12_TabTells (x : ty_178_3) : Option Bool := g_law12_TabTells x.1 x.2.1 x.2.2.1 x.2.2.2.1 x.2.2.2.2.1 x.2.2.2.2.2.1 x.2.2.2.2.2.2.1 x.2.2.2.2.2.2.2.1 x.2.2.2.2.2.2.2.2.1
noncomputable def con_law12_TabTells : List AV → Prog AV := conP true ash_law12_TabTells (.dat .bool) G_law12_TabTells
theorem snd_law12_TabTells : SoundA Try.prog 7 con_law12_TabTells := conP_sound (cal_law12_TabTells 7) true (by rfl) (by rfl) (fun x r e => (evGX_eq _ _ _ _ _ _ _).trans ((raw_law12_TabTells x.1 x.2.1 x.2.2.1 x.2.2.2.1 x.2.2.2.2.1 x.2.2.2.2.2.1 x.2.2.2.2.2.2.1 x.2.2.2.2.2.2.2.1 x.2.2.2.2.2.2.2.2.1).trans e)) (.inl rfl)
end Go.Proofs.Ytbdcblpjemmipaa.Ex

namespace Go.Proofs.Ytbdcblpjemmipaa.Ex
set_option maxRecDepth 100000
set_option maxHeartbeats 2000000
set_option linter.unusedVariables false
set_option linter.unusedSimpArgs false
abbrev ty_179_0 : Type := ((List En) × (List En) × (List En) × (List Int) × Int × Bool × Int × Int × Int × Bool)
abbrev ty_179_1 : Type := ((List En) × (List En) × (List En) × (List Int) × Int × Bool × Int × Int × Int)
noncomputable def bd_law12_TabTells_7_0_0 (s0 : (List En)) (s1 : (List En)) (s3 : (List Int)) (s4 : Int) (s5 : Bool) (s6 : Int) (s7 : Int) (s8 : Int) (s2 : (List En)) (i : Nat)  (d : En) : Option (Unit ⊕ (ty_179_1 ⊕ ty_179_0)) :=
  optC (G_ref2_Is (d.2.2.2.2, ())) (none) fun d13 ↦
   bif !d13 then
   some (Sum.inr (Sum.inr (s0, s1, s2, s3, s4, s5, s6, s7, s8, true)))
 else bif decide (d.2.2.2.1 < 0) then
   some (Sum.inr (Sum.inr (s0, s1, s2, s3, s4, s5, s6, s7, s8, true)))
 else bif decide (d.2.2.2.1 ≥ 2147483648) then
   some (Sum.inr (Sum.inr (s0, s1, s2, s3, s4, s5, s6, s7, s8, true)))
 else some (Sum.inl ())
noncomputable def fn_law12_TabTells_7_0_0 (s0 : (List En)) (s1 : (List En)) (s3 : (List Int)) (s4 : Int) (s5 : Bool) (s6 : Int) (s7 : Int) (s8 : Int) (s2 : (List En))  : Option (ty_179_1 ⊕ ty_179_0) :=
  some (Sum.inl (s0, s1, s2, s3, s4, s5, s6, s7, s8))
noncomputable abbrev rx_law12_TabTells_7_0_0 (s0 : (List En)) (s1 : (List En)) (s3 : (List Int)) (s4 : Int) (s5 : Bool) (s6 : Int) (s7 : Int) (s8 : Int) (s2 : (List En)) (i : Nat) (s : Unit) : ((List En) × (List En) × (List En) × (List Int) × Int × Bool × Int × Int × Int × Int) := (s0, s1, s2, s3, s4, s5, s6, s7, s8, (i : Int))
noncomputable def rv_law12_TabTells_7_0_0 (s0 : (List En)) (s1 : (List En)) (s3 : (List Int)) (s4 : Int) (s5 : Bool) (s6 : Int) (s7 : Int) (s8 : Int) (s2 : (List En)) (s : Unit) : Option (ty_179_1 ⊕ ty_179_0) := rangeO (fun i s d => bd_law12_TabTells_7_0_0 s0 s1 s3 s4 s5 s6 s7 s8 s2 i  d) (fun s => fn_law12_TabTells_7_0_0 s0 s1 s3 s4 s5 s6 s7 s8 s2 ) 0 s2 s
theorem rg_law12_TabTells_7_0_0 (s0 : (List En)) (s1 : (List En)) (s3 : (List Int)) (s4 : Int) (s5 : Bool) (s6 : Int) (s7 : Int) (s8 : Int) (s2 : (List En)) (s : Unit) (hl : s2.length < 9223372036854775807) : L_law12_TabTells_7_0_0 (s0, s1, s2, s3, s4, s5, s6, s7, s8, 0) = rv_law12_TabTells_7_0_0 s0 s1 s3 s4 s5 s6 s7 s8 s2 s := by
  unfold L_law12_TabTells_7_0_0 rv_law12_TabTells_7_0_0
  refine iterO_range0 s2 (rx_law12_TabTells_7_0_0 s0 s1 s3 s4 s5 s6 s7 s8 s2) _ _ ?_ ?_ s (by unfold FUEL; omega)
  · intro i s d hi hd
    have e1 : decide ((i : Int) < (s2.length : Int)) = true := decide_eq_true (by omega)
    have e2 : decide (0 ≤ (i : Int)) = true := decide_eq_true (by omega)
    have e3 : Int.toNat (i : Int) = i := Int.toNat_natCast i
    have e4 := wrap_next hi (Nat.le_of_lt hl)
    show st_law12_TabTells_7_0_0 (s0) (s1) (s2) (s3) (s4) (s5) (s6) (s7) (s8) ((i : Int)) = upd _ (bd_law12_TabTells_7_0_0 s0 s1 s3 s4 s5 s6 s7 s8 s2 i  d)
    unfold st_law12_TabTells_7_0_0 bd_law12_TabTells_7_0_0
    simp only [e1, e2, e3, e4, hd, cond_true, cond_false, optC_some, upd_cond, upd_optC, upd_elim, upd_inl, upd_inr, upd_none]
  · intro s
    have e1 : decide ((s2.length : Int) < (s2.length : Int)) = false := decide_eq_false (by omega)
    show st_law12_TabTells_7_0_0 (s0) (s1) (s2) (s3) (s4) (s5) (s6) (s7) (s8) ((s2.length : Int)) = _
    unfold st_law12_TabTells_7_0_0 fn_law12_TabTells_7_0_0
    rw [e1]
    rfl
end Go.Proofs.Ytbdcblpjemmipaa.Ex

namespace Go.Proofs.Ytbdcblpjemmipaa.Ex
open Go.Proofs
set_option maxRecDepth 100000
set_option maxHeartbeats 2000000
set_option linter.unusedVariables false
set_option linter.unusedSimpArgs false
theorem tabAbove (a b : List En) (st : List Int) : g_law12_TabAbove a b st = some true := by
  unfold g_law12_TabAbove G_law12_tables
  obtain ⟨p, hp, hk⟩ := n_law12_tables [a, b] (by simp)
  simp only [hp, optC_some]
  cases p
  · rfl
  obtain ⟨la, ka⟩ := hk rfl a (by simp)
  obtain ⟨lb, kb⟩ := hk rfl b (by simp)
  by_cases hs : (st.length : Int) > 60
  · rw [decide_eq_true hs]; rfl
  rw [decide_eq_false hs]
  have hst : st.length < 9223372036854775807 := by omega
  have kj := tab_add okF_join ka kb.a
  have kw := tab_add (okF_wid st) ka kb.a
  have lj := add_len iJoin b a
  have lw := add_len (widF st) b a
  have e1 := n_tab_Join a b ka.srt (by omega)
  have e2 := n_tab_Widen a b st hst ka.srt (by omega)
  have e3 := n_tab_Join b a kb.srt (by omega)
  rw [← join_comm_tab ka kb] at e3
  have q1 := n_tab_Leq a _ kj.srt (by omega) (by omega)
  rw [leqT_of ka.srt kj.srt (up_l upF_join ka kb)] at q1
  have q2 := n_tab_Leq b _ kj.srt (by omega) (by omega)
  rw [leqT_of kb.srt kj.srt (up_r upF_join ka kb)] at q2
  have q3 := n_tab_Leq a _ kw.srt (by omega) (by omega)
  rw [leqT_of ka.srt kw.srt (up_l (upF_wid st) ka kb)] at q3
  have q4 := n_tab_Leq b _ kw.srt (by omega) (by omega)
  rw [leqT_of kb.srt kw.srt (up_r (upF_wid st) ka kb)] at q4
  have q5 := n_tab_Leq (addT iJoin a b) (addT (widF st) a b) kw.srt (by omega) (by omega)
  rw [leqT_of kj.srt kw.srt (le_both (join_le_wid st) ka kb)] at q5
  have s1 := n_tab_Same (addT iJoin a b) (addT iJoin a b) (by omega)
  rw [decide_eq_true rfl] at s1
  have i1 := n_ref12_Is (addT iJoin a b) (by omega)
  rw [isTab_of kj.e kj.srt] at i1
  have i2 := n_ref12_Is (addT (widF st) a b) (by omega)
  rw [isTab_of kw.e kw.srt] at i2
  simp only [cond_false, cond_true, Bool.not_true, G_tab_Join, e1, G_tab_Widen, e2, e3, G_tab_Leq, q1, q2, q3, q4, q5, G_tab_Same, s1, G_ref12_Is, i1, i2, optC_some]
  rfl
def okAB (d : En) : Bool := isB (vl d) && (!decide (d.2.2.2.1 < 0) && !decide (d.2.2.2.1 ≥ 2147483648))
theorem okAB_ok {d : En} (h : okAB d = true) : okA d := by
  unfold okAB at h
  simp only [Bool.and_eq_true, Bool.not_eq_true', decide_eq_false_iff_not] at h
  exact ⟨h.1, by omega⟩
theorem tabTells (a b e : List En) (st : List Int) (t : Int) (ar : Bool) (g h m : Int) : g_law12_TabTells a b e st t ar g h m = some true := by
  unfold g_law12_TabTells G_law12_tables
  obtain ⟨p, hp, hk⟩ := n_law12_tables [a, b] (by simp)
  simp only [hp, optC_some]
  cases p
  · rfl
  obtain ⟨la, ka⟩ := hk rfl a (by simp)
  obtain ⟨lb, kb⟩ := hk rfl b (by simp)
  by_cases he : (e.length : Int) > 40
  · rw [decide_eq_true he]; rfl
  by_cases hs : (st.length : Int) > 60
  · rw [decide_eq_false he, decide_eq_true hs]; rfl
  by_cases h0 : h < 0
  · rw [decide_eq_false he, decide_eq_false hs, decide_eq_true h0]; rfl
  by_cases h1 : h ≥ 2147483648
  · rw [decide_eq_false he, decide_eq_false hs, decide_eq_false h0, decide_eq_true h1]; rfl
  rw [decide_eq_false he, decide_eq_false hs, decide_eq_false h0, decide_eq_false h1, rg_law12_TabTells_7_0_0 a b st t ar g h m e () (by omega)]
  unfold rv_law12_TabTells_7_0_0
  have hb : ∀ j d, bd_law12_TabTells_7_0_0 a b st t ar g h m e j d = bif okAB d then some (.inl ()) else some (.inr (.inr (a, b, e, st, t, ar, g, h, m, true))) := fun j d => by
    unfold bd_law12_TabTells_7_0_0 okAB G_ref2_Is
    simp only [n_ref2_Is, optC_some]
    show (bif !isB (vl d) then _ else _) = _
    cases isB (vl d)
    · rfl
    · by_cases q1 : d.2.2.2.1 < 0
      · rw [decide_eq_true q1]; rfl
      · by_cases q2 : d.2.2.2.1 ≥ 2147483648
        · rw [decide_eq_false q1, decide_eq_true q2]; rfl
        · rw [decide_eq_false q1, decide_eq_false q2]; rfl
  obtain ⟨k, hk⟩ := range_all (f := fun i _ d => bd_law12_TabTells_7_0_0 a b st t ar g h m e i d) (fin := fun _ => fn_law12_TabTells_7_0_0 a b st t ar g h m e) (p := okAB) (out := fun _ => .inr (a, b, e, st, t, ar, g, h, m, true)) hb e 0
  rw [hk]
  cases hq : e.all okAB
  · rfl
  have ke : ∀ x ∈ e, okA x := fun x hx => okAB_ok (List.all_eq_true.1 hq x hx)
  have hh : 0 ≤ h ∧ h < 2147483648 := by omega
  have hst : st.length < 9223372036854775807 := by omega
  have l1 := add_len rJoin e a
  have l2 := add_len rJoin b a
  have l3 := add_len (widF st) b a
  have e1 := n_tab_Add a e ka.srt (by omega)
  rw [add_join ka.e ke] at e1
  have e2 := n_ref12_Add2 a e (by omega)
  have e3 := n_tab_Join a b ka.srt (by omega)
  rw [add_join ka.e kb.a] at e3
  have e4 := n_ref12_Add2 a b (by omega)
  have e5 := n_tab_Widen a b st hst ka.srt (by omega)
  have e6 := n_ref12_Widen a b st hst ka.srt kb.srt (by omega)
  rw [wid_same ka kb] at e6
  have s1 := n_ref12_Same (addT rJoin a e) (addT rJoin a e) (by omega)
  rw [decide_eq_true rfl] at s1
  have s2 := n_ref12_Same (addT rJoin a b) (addT rJoin a b) (by omega)
  rw [decide_eq_true rfl] at s2
  have s3 := n_ref12_Same (addT (widF st) a b) (addT (widF st) a b) (by omega)
  rw [decide_eq_true rfl] at s3
  simp only [cond_false, cond_true, Bool.not_true, Bool.not_false, fn_law12_TabTells_7_0_0, optC_some, Sum.elim_inl, G_tab_Add, e1, G_ref12_Add, e2, G_ref12_Same, s1, G_tab_Join, e3, e4, s2, G_tab_Widen, e5, G_ref12_Widen, e6, s3,
    G_tab_Seen, n_tab_Seen a t ar g h hh ka.e (by omega), G_ref12_Seen, n_ref12_Seen a t ar g h hh ka.e (by omega), beq_self_eq_true, Bool.and_self, G_tab_Gained, n_tab_Gained a t ar g h m hh ka.e (by omega), G_ref12_Gained, n_ref12_Gained a t ar g h m hh ka.e (by omega),
    G_tab_Leq, n_tab_Leq a b kb.srt (by omega) (by omega), G_ref12_Leq, n_ref12_Leq a b (by omega) (by omega), G_tab_Same, n_tab_Same a b (by omega), n_ref12_Same a b (by omega)]
  rfl
end Go.Proofs.Ytbdcblpjemmipaa.Ex

namespace Go.Proofs.Ytbdcblpjemmipaa.Ex
open Go.Proofs Go.Proofs.Ytbdcblpjemmipaa
set_option maxRecDepth 100000
set_option maxHeartbeats 2000000
set_option linter.unusedVariables false
set_option linter.unusedSimpArgs false
def ash_law12_TabSeen : List Sh := [.dat (.sl tEn), .dat (.sl tEn), .dat (.int .i64), .dat .bool, .dat (.int .i64), .dat (.int .i64), .dat (.int .i64)]
noncomputable def sp_law12_TabSeen : Nat → Option (List AV → Prog AV)
  | 12 => some (con_law12_tables)
  | 13 => some (con_tab_Seen)
  | 14 => some (con_tab_Gained)
  | 15 => some (con_ref2_Join)
  | 17 => some (con_tab_Join)
  | 16 => some (con_ref2_Leq)
  | 18 => some (con_law12_known)
  | _ => none
theorem hsp_law12_TabSeen : ∀ g p, sp_law12_TabSeen g = some p → SoundA Try.prog g p := by
  intro g p h
  unfold sp_law12_TabSeen at h
  split at h
  · cases h; exact snd_law12_tables
  · cases h; exact snd_tab_Seen
  · cases h; exact snd_tab_Gained
  · cases h; exact snd_ref2_Join
  · cases h; exact snd_tab_Join
  · cases h; exact snd_ref2_Leq
  · cases h; exact snd_law12_known
  · cases h
noncomputable def cx_law12_TabSeen : Ctx := { tab := tab, spec := sp_law12_TabSeen, inl := inl, lps := fun _ _ => none, fuel := 40 }
theorem in_law12_TabSeen : InlOk Try.prog cx_law12_TabSeen := ⟨inl_ok, fun _ _ _ _ _ _ _ _ h => nomatch h⟩
theorem cal_law12_TabSeen (g : Nat) : SoundA Try.prog g (evF cx_law12_TabSeen keeps 8 g) := evF_sound (tabOk_of tab_ok) (cmpsOk_of tab_ok cmps_ok) mixed in_law12_TabSeen hsp_law12_TabSeen keeps 8 g
noncomputable def g_law12_TabSeen (a0 : (List En)) (a1 : (List En)) (a2 : Int) (a3 : Bool) (a4 : Int) (a5 : Int) (a6 : Int) : Option Bool :=
  optC (G_law12_tables ([a0, a1], ())) none fun d8 ↦
 bif !d8 then some true
 else
 bif decide (a5 < 0) then some true
 else
 bif decide (a5 ≥ 2147483648) then some true
 else
 bif decide (a6 < 0) then some true
 else
 bif decide (a6 > 30) then some true
 else
 optC (G_tab_Seen (a0, a2, a3, a4, a5, ())) none fun d9 ↦
 bif decide (Go.IntKind.u64.wrap a6 < 0) then none
 else
 optC
 (G_tab_Seen
 (a0, a2, a3, a4,
 Go.IntKind.i64.wrap
 (↑(BitVec.ofInt Go.IntKind.i64.bits a5 ||| BitVec.ofInt Go.IntKind.i64.bits (Go.IntKind.i64.wrap (1 * 2 ^ Min.min (Go.IntKind.u64.wrap a6).toNat Go.IntKind.i64.bits))).toNat :
 Int),
 ()))
 none fun d10 ↦
 optC (G_tab_Gained (a0, a2, a3, a4, a5, a6, ())) none fun d11 ↦
 optC (G_ref2_Join (d10, d11, ())) none fun d12 ↦
 bif d12.1 == d9.1 && d12.2 == d9.2 then
 optC (G_tab_Join (a0, a1, ())) none fun d13 ↦
 optC (G_tab_Seen (d13, a2, a3, a4, a5, ())) none fun d14 ↦
 optC (G_ref2_Leq (d9, d14, ())) none fun d15 ↦ bif d15 then some (decide (1 > 0)) else some false
 else some false
theorem raw_law12_TabSeen (a0 : (List En)) (a1 : (List En)) (a2 : Int) (a3 : Bool) (a4 : Int) (a5 : Int) (a6 : Int) : evGX cx_law12_TabSeen keeps 8 3 ash_law12_TabSeen (.dat .bool) ((a0, a1, a2, a3, a4, a5, a6, ()) : ((List En) × ((List En) × (Int × (Bool × (Int × (Int × (Int × Unit)))))))) = g_law12_TabSeen a0 a1 a2 a3 a4 a5 a6 := by kernel_rfl
noncomputable def G_law12_TabSeen (x : ((List En) × ((List En) × (Int × (Bool × (Int × (Int × (Int × Unit)))))))) : Option Bool := g_law12_TabSeen x.1 x.2.1 x.2.2.1 x.2.2.2.1 x.2.2.2.2.1 x.2.2.2.2.2.1 x.2.2.2.2.2.2.1
noncomputable def con_law12_TabSeen : List AV → Prog AV := conP true ash_law12_TabSeen (.dat .bool) G_law12_TabSeen
theorem snd_law12_TabSeen : SoundA Try.prog 3 con_law12_TabSeen := conP_sound (cal_law12_TabSeen 3) true (by rfl) (by rfl) (fun x r e => (evGX_eq _ _ _ _ _ _ _).trans ((raw_law12_TabSeen x.1 x.2.1 x.2.2.1 x.2.2.2.1 x.2.2.2.2.1 x.2.2.2.2.2.1 x.2.2.2.2.2.2.1).trans e)) (.inl rfl)
end Go.Proofs.Ytbdcblpjemmipaa.Ex

namespace Go.Proofs.Ytbdcblpjemmipaa.Ex
open Go.Proofs
set_option maxRecDepth 100000
set_option maxHeartbeats 2000000
set_option linter.unusedVariables false
set_option linter.unusedSimpArgs false
theorem join_assoc (x y z : I) : iJoin (iJoin x y) z = iJoin x (iJoin y z) := by
  unfold iJoin empB mn mx nn
  obtain ⟨a, b⟩ := x
  obtain ⟨c, d⟩ := y
  obtain ⟨e, f⟩ := z
  simp only [decide_eq_true_eq]
  (repeat' split) <;> simp_all <;> omega
theorem join_swap (x y z : I) : iJoin (iJoin x y) z = iJoin (iJoin x z) y := by rw [join_assoc, join_comm y z, ← join_assoc]
theorem seen_split {p q : En → Bool} : ∀ (l : List En) (u v : I), seenS p (iJoin u v) l = iJoin (seenS (fun e => p e && !q e) u l) (seenS (fun e => p e && q e) v l)
  | [], u, v => rfl
  | e :: r, u, v => by
    unfold seenS
    simp only [List.foldl_cons]
    rcases Bool.eq_false_or_eq_true (p e) with hp | hp
    rotate_left
    · simp only [hp, Bool.false_and, Bool.false_eq_true, if_false]; exact seen_split r u v
    · rcases Bool.eq_false_or_eq_true (q e) with hq | hq
      rotate_left
      · simp only [hp, hq, Bool.true_and, Bool.not_false, Bool.false_eq_true, if_false, if_true]
        rw [join_swap]; exact seen_split r _ v
      · simp only [hp, hq, Bool.true_and, Bool.not_true, Bool.false_eq_true, if_false, if_true]
        rw [join_assoc]; exact seen_split r u _
theorem pow_bit (m : Int) (h0 : 0 ≤ m) (h1 : ¬ m > 30) : IntKind.i64.wrap (1 * 2 ^ min (IntKind.u64.wrap m).toNat IntKind.i64.bits) = ((2 ^ m.toNat : Nat) : Int) ∧ ¬ IntKind.u64.wrap m < 0 := by
  obtain ⟨k, rfl⟩ : ∃ k : Nat, m = (k : Int) := ⟨m.toNat, by omega⟩
  have hk : k < 31 := by omega
  have e2 : IntKind.u64.wrap (k : Int) = k := by
    simp [IntKind.wrap, IntKind.signed, IntKind.bits]
    omega
  rw [e2]
  refine ⟨?_, by omega⟩
  rw [Int.toNat_natCast, Nat.min_eq_left (show k ≤ IntKind.i64.bits by show k ≤ 64; omega), Int.one_mul]
  have h2 : (2 : Nat) ^ k ≤ 2 ^ 30 := Nat.pow_le_pow_right (by decide) (by omega)
  rw [show ((2 : Int) ^ k) = ((2 ^ k : Nat) : Int) by simp]
  exact wr (by rw [Int.natAbs_natCast]; omega)
theorem or_bit (h m : Int) (hh : 0 ≤ h ∧ h < 2147483648) (h0 : 0 ≤ m) (h1 : ¬ m > 30) :
    ∃ k : Int, IntKind.i64.wrap ((BitVec.ofInt IntKind.i64.bits h ||| BitVec.ofInt IntKind.i64.bits (IntKind.i64.wrap (1 * 2 ^ min (IntKind.u64.wrap m).toNat IntKind.i64.bits))).toNat : Int) = k ∧ 0 ≤ k ∧ k < 2147483648 ∧
      ∀ s, apI s k = (apI s h && !tb s m) := by
  rw [(pow_bit m h0 h1).1]
  obtain ⟨n, rfl⟩ : ∃ n : Nat, h = (n : Int) := ⟨h.toNat, by omega⟩
  obtain ⟨k, rfl⟩ : ∃ k : Nat, m = (k : Int) := ⟨m.toNat, by omega⟩
  rw [Int.toNat_natCast]
  have h2 : (2 : Nat) ^ k ≤ 2 ^ 30 := Nat.pow_le_pow_right (by decide) (by omega)
  rw [or64 (by omega) (by omega)]
  have h3 : n ||| 2 ^ k < 2 ^ 31 := Nat.or_lt_two_pow (by omega) (by omega)
  refine ⟨((n ||| 2 ^ k : Nat) : Int), rfl, by omega, by omega, fun s => ?_⟩
  unfold apI tb
  rw [Int.toNat_natCast, Int.toNat_natCast, Int.toNat_natCast, decide_eq_true (show (0 : Int) ≤ (k : Int) by omega), decide_eq_true (show (k : Int) < 31 by omega)]
  simp only [Bool.true_and]
  rw [Nat.and_or_distrib_left]
  have hb := and_pow s.toNat k
  generalize s.toNat &&& n = x at *
  generalize hy : s.toNat &&& 2 ^ k = y at *
  rw [← hb]
  cases hx : (x == 0)
  · have : x ≠ 0 := beq_eq_false_iff_ne.1 hx
    rw [Bool.false_and, beq_eq_false_iff_ne]
    intro hz
    exact this (Nat.or_eq_zero_iff.1 hz).1
  · have : x = 0 := beq_iff_eq.1 hx
    subst this
    rw [Nat.zero_or, Bool.true_and]
    cases y <;> rfl
theorem tabSeen (a b : List En) (t : Int) (ar : Bool) (g h m : Int) : g_law12_TabSeen a b t ar g h m = some true := by
  unfold g_law12_TabSeen G_law12_tables
  obtain ⟨p, hp, hk⟩ := n_law12_tables [a, b] (by simp)
  simp only [hp, optC_some]
  cases p
  · rfl
  obtain ⟨la, ka⟩ := hk rfl a (by simp)
  obtain ⟨lb, kb⟩ := hk rfl b (by simp)
  by_cases h0 : h < 0
  · rw [decide_eq_true h0]; rfl
  by_cases h1 : h ≥ 2147483648
  · rw [decide_eq_false h0, decide_eq_true h1]; rfl
  by_cases m0 : m < 0
  · rw [decide_eq_false h0, decide_eq_false h1, decide_eq_true m0]; rfl
  by_cases m1 : m > 30
  · rw [decide_eq_false h0, decide_eq_false h1, decide_eq_false m0, decide_eq_true m1]; rfl
  have hh : 0 ≤ h ∧ h < 2147483648 := by omega
  obtain ⟨k, hk, k0, k1, kb2⟩ := or_bit h m hh (by omega) m1
  rw [decide_eq_false h0, decide_eq_false h1, decide_eq_false m0, decide_eq_false m1, decide_eq_false (pow_bit m (by omega) m1).2, hk]
  have kj := tab_add okF_join ka kb.a
  have lj := add_len iJoin b a
  have e1 := n_tab_Join a b ka.srt (by omega)
  have hz : isB (gainV a t ar g h m) = true := gainV_is ka.e
  have key : rJoin (seenV a t ar g k) (gainV a t ar g h m) = seenV a t ar g h := by
    rw [← join_eq hz]
    unfold seenV gainV
    have hs : seenS (seesB t ar g k) nn a = seenS (fun e => seesB t ar g h e && !tb e.2.2.2.1 m) nn a := by
      unfold seenS
      congr 1
      funext v e
      have : seesB t ar g k e = (seesB t ar g h e && !tb e.2.2.2.1 m) := by
        unfold seesB
        rw [kb2]
        simp only [Bool.and_assoc]
      rw [this]
    rw [hs]
    exact (seen_split (p := seesB t ar g h) (q := fun e => tb e.2.2.2.1 m) a nn nn).symm
  have hle : leqB (seenV a t ar g h) (seenV (addT iJoin a b) t ar g h) = true := seenV_mono (leG_T kj.srt ka.srt (up_l upF_join ka kb)) (fun i hi => hi)
  simp only [cond_false, cond_true, Bool.not_true, Bool.not_false, G_tab_Seen, n_tab_Seen a t ar g h hh ka.e (by omega), n_tab_Seen a t ar g k ⟨k0, k1⟩ ka.e (by omega), G_tab_Gained, n_tab_Gained a t ar g h m hh ka.e (by omega), optC_some, G_ref2_Join, n_ref2_Join, key,
    beq_self_eq_true, Bool.and_self, G_tab_Join, e1, n_tab_Seen (addT iJoin a b) t ar g h hh kj.e (by omega), G_ref2_Leq, n_ref2_Leq, hle]
  rfl
end Go.Proofs.Ytbdcblpjemmipaa.Ex

namespace Go.Proofs.Ytbdcblpjemmipaa.Ex
open Go.Proofs Go.Proofs.Ytbdcblpjemmipaa
set_option maxRecDepth 100000
set_option maxHeartbeats 2000000
set_option linter.unusedVariables false
set_option linter.unusedSimpArgs false
abbrev fn_183_0 := (fun (x : ((List En) × Bool × (List En))) => (((x.1, x.2.1, (), ()), (x.2.2, ())) : (((List En) × (Bool × (Unit × Unit))) × ((List En) × Unit))))
abbrev fn_183_1 := (fun (x : ((List En) × Int × (List En))) => (((x.1, (), x.2.1, ()), (x.2.2, ())) : (((List En) × (Unit × (Int × Unit))) × ((List En) × Unit))))
abbrev fn_183_2 := (fun (d : (((List En) × (Unit × (Int × Unit))) × ((List En) × Unit))) => ((d.1.1, d.1.2.2.1, d.2.1) : ((List En) × Int × (List En))))
abbrev fn_183_3 := (fun (x : ((List En) × (List En))) => (((x.1, (), (), ()), (x.2, ())) : (((List En) × (Unit × (Unit × Unit))) × ((List En) × Unit))))
def ash_law12_TabAdds : List Sh := [.dat (.sl tEn)]
def kp_law12_TabAdds_4_0 : Nat → List Nat := fun c => bif c.beq 0 then [0, 3, 4] else [0, 2, 3]
def kp_law12_TabAdds_4_2 : Nat → List Nat := fun c => bif c.beq 0 then [0, 5, 7] else [2]
noncomputable def sp_law12_TabAdds : Nat → Option (List AV → Prog AV)
  | 19 => some (con_ref2_Is)
  | 20 => some (con_tab_Add)
  | 21 => some (con_ref12_Is)
  | 22 => some (con_tab_Same)
  | 23 => some (con_tab_Leq)
  | 18 => some (con_law12_known)
  | _ => none
theorem hsp_law12_TabAdds : ∀ g p, sp_law12_TabAdds g = some p → SoundA Try.prog g p := by
  intro g p h
  unfold sp_law12_TabAdds at h
  split at h
  · cases h; exact snd_ref2_Is
  · cases h; exact snd_tab_Add
  · cases h; exact snd_ref12_Is
  · cases h; exact snd_tab_Same
  · cases h; exact snd_tab_Leq
  · cases h; exact snd_law12_known
  · cases h
noncomputable def cx_law12_TabAdds0 : Ctx := { tab := tab, spec := sp_law12_TabAdds, inl := inl, lps := fun _ _ => none, fuel := 40 }
theorem in_law12_TabAdds0 : InlOk Try.prog cx_law12_TabAdds0 := ⟨inl_ok, fun _ _ _ _ _ _ _ _ h => nomatch h⟩
theorem cal_law12_TabAdds0 (g : Nat) : SoundA Try.prog g (evF cx_law12_TabAdds0 keeps 8 g) := evF_sound (tabOk_of tab_ok) (cmpsOk_of tab_ok cmps_ok) mixed in_law12_TabAdds0 hsp_law12_TabAdds keeps 8 g
noncomputable def F_law12_TabAdds_4_0 (base : Nat) : Tm → Prog (Nat × Tm) := evC cx_law12_TabAdds0 (evF cx_law12_TabAdds0 keeps 8) ⟨4, 76, keeps 4, base⟩ 0 (bodyX 4 0)
def s_law12_TabAdds_4_0_0 : StS := ⟨[(0, .sl tEn), (3, .row 0), (4, .int .i64)], [(0, .row tEn)], 1⟩
def x_law12_TabAdds_4_0_0_0 : StS := ⟨[(0, .sl tEn), (2, .undef), (3, .row 0)], [(0, .row tEn)], 1⟩
def x_law12_TabAdds_4_0_0_1 : StS := ⟨[(0, .sl tEn), (2, .bool), (3, .row 0)], [(0, .row tEn)], 1⟩
noncomputable def st_law12_TabAdds_4_0_0 (s0 : (List En)) (s4 : Int) (b0 : (List En)) : Option (((List En) × Int × (List En)) ⊕ (((List En) × (List En)) ⊕ ((List En) × Bool × (List En)))) :=
  bif decide (s4 < (↑s0.length : Int)) then
 bif decide (0 ≤ s4) then
 optC s0[s4.toNat]? none fun d6 ↦
 optC (G_ref2_Is (d6.2.2.2.2, ())) none fun d7 ↦
 bif !d7 then some (Sum.inr (Sum.inr (s0, true, b0)))
 else
 bif decide (0 ≤ s4) then
 optC s0[s4.toNat]? none fun d8 ↦
 bif decide (d8.2.2.2.1 < 0) then some (Sum.inr (Sum.inr (s0, true, b0)))
 else
 bif decide (0 ≤ s4) then
 optC s0[s4.toNat]? none fun d9 ↦
 bif decide (d9.2.2.2.1 ≥ 2147483648) then some (Sum.inr (Sum.inr (s0, true, b0)))
 else
 bif decide (0 ≤ s4) then
 optC s0[s4.toNat]? none fun d10 ↦
 bif decide (([d10].length + b0.length + 1) * 48 ≤ lim) then
 some
 (Sum.inl (s0, Go.IntKind.i64.wrap (s4 + 1), (d10.1, d10.2.1, d10.2.2.1, d10.2.2.2.1, d10.2.2.2.2.1, d10.2.2.2.2.2) :: b0))
 else none
 else none
 else none
 else none
 else none
 else some (Sum.inr (Sum.inl (s0, b0)))
theorem rn_law12_TabAdds_4_0_0 (s0 : (List En)) (s4 : Int) (b0 : (List En)) : rdX cx_law12_TabAdds0 keeps 8 ⟨4, 76, keeps 4, 0⟩ 0 (bodyX 4 0) 0 kp_law12_TabAdds_4_0 (sT s_law12_TabAdds_4_0_0 ((s0, (), s4, ()), (b0, ()))) (sH s_law12_TabAdds_4_0_0 ((s0, (), s4, ()), (b0, ()))) (rdO (fun T h => (rdS s_law12_TabAdds_4_0_0 T h).map fn_183_2) (getOr (getE 2 x_law12_TabAdds_4_0_0_0 (fun (d : (((List En) × (Unit × (Unit × Unit))) × ((List En) × Unit))) => ((d.1.1, d.2.1) : ((List En) × (List En))))) (getE 1 x_law12_TabAdds_4_0_0_1 (fun (d : (((List En) × (Bool × (Unit × Unit))) × ((List En) × Unit))) => ((d.1.1, d.1.2.1, d.2.1) : ((List En) × Bool × (List En))))))) = st_law12_TabAdds_4_0_0 s0 s4 b0 := by kernel_rfl
noncomputable def L_law12_TabAdds_4_0_0 (x : ((List En) × Int × (List En))) : Option (((List En) × (List En)) ⊕ ((List En) × Bool × (List En))) := iterO (fun x => st_law12_TabAdds_4_0_0 x.1 x.2.1 x.2.2) FUEL x
noncomputable def q_law12_TabAdds_4_0 : Nat → Tm → Prog (Nat × Tm) := (varP 0 (fun T h => (rdS s_law12_TabAdds_4_0_0 T h).map fn_183_2) L_law12_TabAdds_4_0_0 (fun y => .alt y (altE 2 x_law12_TabAdds_4_0_0_0 fn_183_3) (altE 1 x_law12_TabAdds_4_0_0_1 fn_183_0)) (fun _ _ => .fail))
theorem ok_law12_TabAdds_4_0 : VarOk kp_law12_TabAdds_4_0 F_law12_TabAdds_4_0 q_law12_TabAdds_4_0 := (varX_ok (s := s_law12_TabAdds_4_0_0) (un := fn_183_1) (by rfl) (fun _ => rfl) (getOr_ok (getE_ok (s := x_law12_TabAdds_4_0_0_0) (un := fn_183_3) (by rfl) (fun _ => rfl)) (getE_ok (s := x_law12_TabAdds_4_0_0_1) (un := fn_183_0) (by rfl) (fun _ => rfl))) (step := fun x => st_law12_TabAdds_4_0_0 x.1 x.2.1 x.2.2) (fun x => rn_law12_TabAdds_4_0_0 x.1 x.2.1 x.2.2) (fun _ _ e => ⟨_, e⟩) (altOr_ok (altE_ok 2 x_law12_TabAdds_4_0_0_0 fn_183_3) (altE_ok 1 x_law12_TabAdds_4_0_0_1 fn_183_0)) (VarOk.fail _ _))
noncomputable def lpI_law12_TabAdds_4_0 (base : Nat) (T : Tm) : Prog (Nat × Tm) := .norm base (kp_law12_TabAdds_4_0 0) T (q_law12_TabAdds_4_0 base)
theorem sndI_law12_TabAdds_4_0 : SoundC Try.prog 76 (.loop (bodyX 4 0)) lpI_law12_TabAdds_4_0 := loopK_sound (cx := cx_law12_TabAdds0) (cal := evF cx_law12_TabAdds0 keeps 8) (kp := keeps 4) (tabOk_of tab_ok) (cmpsOk_of tab_ok cmps_ok) cal_law12_TabAdds0 mixed (hl_of (g := 4) (b := 0) in_law12_TabAdds0 (by kernel_rfl) (by kernel_rfl)) ok_law12_TabAdds_4_0
noncomputable def lpL_law12_TabAdds_4_0 : Nat → Tm → Prog (Nat × Tm) := (ownP [] [(3, tEn)] (kp_law12_TabAdds_4_0 0) lpI_law12_TabAdds_4_0)
theorem sndL_law12_TabAdds_4_0 : SoundC Try.prog 76 (.loop (bodyX 4 0)) lpL_law12_TabAdds_4_0 := (own_sound sndI_law12_TabAdds_4_0)
noncomputable def lp_law12_TabAdds1 : Nat → Nat → Option (Nat → Tm → Prog (Nat × Tm))
  | 4, 0 => some lpL_law12_TabAdds_4_0
  | _, _ => none
noncomputable def cx_law12_TabAdds1 : Ctx := { tab := tab, spec := sp_law12_TabAdds, inl := inl, lps := lp_law12_TabAdds1, fuel := 40 }
theorem in_law12_TabAdds1 : InlOk Try.prog cx_law12_TabAdds1 := ⟨inl_ok, fun g fn c hg hb q hq p hp => by
  change lp_law12_TabAdds1 g q.1 = some p at hp
  change inl g = some fn at hg
  generalize hq1 : q.1 = b at hp
  unfold lp_law12_TabAdds1 at hp
  split at hp
  · cases hp; exact lps_case (inl := inl) hg hb hq hq1 (by kernel_rfl) (by kernel_rfl) sndL_law12_TabAdds_4_0
  · cases hp⟩
theorem cal_law12_TabAdds1 (g : Nat) : SoundA Try.prog g (evF cx_law12_TabAdds1 keeps 8 g) := evF_sound (tabOk_of tab_ok) (cmpsOk_of tab_ok cmps_ok) mixed in_law12_TabAdds1 hsp_law12_TabAdds keeps 8 g
noncomputable def F_law12_TabAdds_4_2 (base : Nat) : Tm → Prog (Nat × Tm) := evC cx_law12_TabAdds1 (evF cx_law12_TabAdds1 keeps 8) ⟨4, 76, keeps 4, base⟩ 2 (bodyX 4 2)
def s_law12_TabAdds_4_2_0 : StS := ⟨[(0, .sl tEn), (5, .row 0), (7, .int .i64)], [(0, .row tEn)], 1⟩
def x_law12_TabAdds_4_2_0_0 : StS := ⟨[(2, .undef)], [], 0⟩
def x_law12_TabAdds_4_2_0_1 : StS := ⟨[(2, .bool)], [], 0⟩
noncomputable def st_law12_TabAdds_4_2_0 (s0 : (List En)) (s7 : Int) (b0 : (List En)) : Option (((List En) × Int × (List En)) ⊕ (Unit ⊕ Bool)) :=
  bif decide (s7 < (↑s0.length : Int)) then
 bif decide (0 ≤ s7) then
 optC s0[s7.toNat]? none fun d6 ↦
 optC (G_tab_Add ([], [d6], ())) none fun d7 ↦
 optC (G_tab_Leq (d7, b0, ())) none fun d8 ↦ bif !d8 then some (Sum.inr (Sum.inr false)) else some (Sum.inl (s0, Go.IntKind.i64.wrap (s7 + 1), b0))
 else none
 else some (Sum.inr (Sum.inl PUnit.unit))
theorem rn_law12_TabAdds_4_2_0 (s0 : (List En)) (s7 : Int) (b0 : (List En)) : rdX cx_law12_TabAdds1 keeps 8 ⟨4, 76, keeps 4, 0⟩ 2 (bodyX 4 2) 0 kp_law12_TabAdds_4_2 (sT s_law12_TabAdds_4_2_0 ((s0, (), s7, ()), (b0, ()))) (sH s_law12_TabAdds_4_2_0 ((s0, (), s7, ()), (b0, ()))) (rdO (fun T h => (rdS s_law12_TabAdds_4_2_0 T h).map fn_183_2) (getOr (getE 4 x_law12_TabAdds_4_2_0_0 (fun (d : ((Unit × Unit) × Unit)) => (() : Unit))) (getE 1 x_law12_TabAdds_4_2_0_1 (fun (d : ((Bool × Unit) × Unit)) => ((d.1.1) : Bool))))) = st_law12_TabAdds_4_2_0 s0 s7 b0 := by kernel_rfl
noncomputable def L_law12_TabAdds_4_2_0 (x : ((List En) × Int × (List En))) : Option (Unit ⊕ Bool) := iterO (fun x => st_law12_TabAdds_4_2_0 x.1 x.2.1 x.2.2) FUEL x
noncomputable def q_law12_TabAdds_4_2 : Nat → Tm → Prog (Nat × Tm) := (varP 0 (fun T h => (rdS s_law12_TabAdds_4_2_0 T h).map fn_183_2) L_law12_TabAdds_4_2_0 (fun y => .alt y (altE 4 x_law12_TabAdds_4_2_0_0 (fun (x : Unit) => ((((), ()), ()) : ((Unit × Unit) × Unit)))) (altE 1 x_law12_TabAdds_4_2_0_1 (fun (x : Bool) => (((x, ()), ()) : ((Bool × Unit) × Unit))))) (fun _ _ => .fail))
theorem ok_law12_TabAdds_4_2 : VarOk kp_law12_TabAdds_4_2 F_law12_TabAdds_4_2 q_law12_TabAdds_4_2 := (varX_ok (s := s_law12_TabAdds_4_2_0) (un := fn_183_1) (by rfl) (fun _ => rfl) (getOr_ok (getE_ok (s := x_law12_TabAdds_4_2_0_0) (un := (fun (x : Unit) => ((((), ()), ()) : ((Unit × Unit) × Unit)))) (by rfl) (fun _ => rfl)) (getE_ok (s := x_law12_TabAdds_4_2_0_1) (un := (fun (x : Bool) => (((x, ()), ()) : ((Bool × Unit) × Unit)))) (by rfl) (fun _ => rfl))) (step := fun x => st_law12_TabAdds_4_2_0 x.1 x.2.1 x.2.2) (fun x => rn_law12_TabAdds_4_2_0 x.1 x.2.1 x.2.2) (fun _ _ e => ⟨_, e⟩) (altOr_ok (altE_ok 4 x_law12_TabAdds_4_2_0_0 (fun (x : Unit) => ((((), ()), ()) : ((Unit × Unit) × Unit)))) (altE_ok 1 x_law12_TabAdds_4_2_0_1 (fun (x : Bool) => (((x, ()), ()) : ((Bool × Unit) × Unit))))) (VarOk.fail _ _))
noncomputable def lpI_law12_TabAdds_4_2 (base : Nat) (T : Tm) : Prog (Nat × Tm) := .norm base (kp_law12_TabAdds_4_2 0) T (q_law12_TabAdds_4_2 base)
theorem sndI_law12_TabAdds_4_2 : SoundC Try.prog 76 (.loop (bodyX 4 2)) lpI_law12_TabAdds_4_2 := loopK_sound (cx := cx_law12_TabAdds1) (cal := evF cx_law12_TabAdds1 keeps 8) (kp := keeps 4) (tabOk_of tab_ok) (cmpsOk_of tab_ok cmps_ok) cal_law12_TabAdds1 mixed (hl_of (g := 4) (b := 2) in_law12_TabAdds1 (by kernel_rfl) (by kernel_rfl)) ok_law12_TabAdds_4_2
noncomputable def lpL_law12_TabAdds_4_2 : Nat → Tm → Prog (Nat × Tm) := lpI_law12_TabAdds_4_2
theorem sndL_law12_TabAdds_4_2 : SoundC Try.prog 76 (.loop (bodyX 4 2)) lpL_law12_TabAdds_4_2 := sndI_law12_TabAdds_4_2
noncomputable def lp_law12_TabAdds : Nat → Nat → Option (Nat → Tm → Prog (Nat × Tm))
  | 4, 0 => some lpL_law12_TabAdds_4_0
  | 4, 2 => some lpL_law12_TabAdds_4_2
  | _, _ => none
noncomputable def cx_law12_TabAdds : Ctx := { tab := tab, spec := sp_law12_TabAdds, inl := inl, lps := lp_law12_TabAdds, fuel := 40 }
theorem in_law12_TabAdds : InlOk Try.prog cx_law12_TabAdds := ⟨inl_ok, fun g fn c hg hb q hq p hp => by
  change lp_law12_TabAdds g q.1 = some p at hp
  change inl g = some fn at hg
  generalize hq1 : q.1 = b at hp
  unfold lp_law12_TabAdds at hp
  split at hp
  · cases hp; exact lps_case (inl := inl) hg hb hq hq1 (by kernel_rfl) (by kernel_rfl) sndL_law12_TabAdds_4_0
  · cases hp; exact lps_case (inl := inl) hg hb hq hq1 (by kernel_rfl) (by kernel_rfl) sndL_law12_TabAdds_4_2
  · cases hp⟩
theorem cal_law12_TabAdds (g : Nat) : SoundA Try.prog g (evF cx_law12_TabAdds keeps 8 g) := evF_sound (tabOk_of tab_ok) (cmpsOk_of tab_ok cmps_ok) mixed in_law12_TabAdds hsp_law12_TabAdds keeps 8 g
noncomputable def g_law12_TabAdds (a0 : (List En)) : Option Bool :=
  bif decide ((↑a0.length : Int) > 30) then some true
 else
 optC (L_law12_TabAdds_4_0_0 (a0, 0, [])) none fun d4 ↦
 Sum.elim
 (fun e5 ↦
 optC (G_tab_Add ([], e5.1, ())) none fun d6 ↦
 optC (G_tab_Add ([], e5.2, ())) none fun d7 ↦
 optC (G_ref12_Is (d6, ())) none fun d8 ↦
 bif !d8 then some false
 else
 optC (G_tab_Same (d6, d7, ())) none fun d9 ↦
 bif !d9 then some false
 else optC (L_law12_TabAdds_4_2_0 (e5.1, 0, d6)) none fun d10 ↦ Sum.elim (fun e11 ↦ some (decide (1 > 0))) (fun e11 ↦ some e11) d10)
 (fun e5 ↦ some e5.2.1) d4
theorem raw_law12_TabAdds (a0 : (List En)) : evGX cx_law12_TabAdds keeps 8 4 ash_law12_TabAdds (.dat .bool) ((a0, ()) : ((List En) × Unit)) = g_law12_TabAdds a0 := by kernel_rfl
noncomputable def G_law12_TabAdds (x : ((List En) × Unit)) : Option Bool := g_law12_TabAdds x.1
noncomputable def con_law12_TabAdds : List AV → Prog AV := conP true ash_law12_TabAdds (.dat .bool) G_law12_TabAdds
theorem snd_law12_TabAdds : SoundA Try.prog 4 con_law12_TabAdds := conP_sound (cal_law12_TabAdds 4) true (by rfl) (by rfl) (fun x r e => (evGX_eq _ _ _ _ _ _ _).trans ((raw_law12_TabAdds x.1).trans e)) (.inl rfl)
end Go.Proofs.Ytbdcblpjemmipaa.Ex

namespace Go.Proofs.Ytbdcblpjemmipaa.Ex
set_option maxRecDepth 100000
set_option maxHeartbeats 2000000
set_option linter.unusedVariables false
set_option linter.unusedSimpArgs false
noncomputable def bd_law12_TabAdds_4_0_0  (s0 : (List En)) (i : Nat) (b0 : (List En)) (d : En) : Option ((List En) ⊕ (((List En) × (List En)) ⊕ ((List En) × Bool × (List En)))) :=
  optC (G_ref2_Is (d.2.2.2.2, ())) (none) fun d7 ↦
   bif !d7 then
   some (Sum.inr (Sum.inr (s0, true, b0)))
 else bif decide (d.2.2.2.1 < 0) then
   some (Sum.inr (Sum.inr (s0, true, b0)))
 else bif decide (d.2.2.2.1 ≥ 2147483648) then
   some (Sum.inr (Sum.inr (s0, true, b0)))
 else bif decide (([d].length + b0.length + 1) * 48 ≤ lim) then
   some (Sum.inl ((d.1, d.2.1, d.2.2.1, d.2.2.2.1, d.2.2.2.2.1, d.2.2.2.2.2) :: b0))
 else none
noncomputable def fn_law12_TabAdds_4_0_0  (s0 : (List En)) (b0 : (List En)) : Option (((List En) × (List En)) ⊕ ((List En) × Bool × (List En))) :=
  some (Sum.inl (s0, b0))
noncomputable abbrev rx_law12_TabAdds_4_0_0  (s0 : (List En)) (i : Nat) (s : (List En)) : ((List En) × Int × (List En)) := (s0, (i : Int), s)
noncomputable def rv_law12_TabAdds_4_0_0  (s0 : (List En)) (s : (List En)) : Option (((List En) × (List En)) ⊕ ((List En) × Bool × (List En))) := rangeO (fun i s d => bd_law12_TabAdds_4_0_0  s0 i s d) (fun s => fn_law12_TabAdds_4_0_0  s0 s) 0 s0 s
theorem rg_law12_TabAdds_4_0_0  (s0 : (List En)) (s : (List En)) (hl : s0.length < 9223372036854775807) : L_law12_TabAdds_4_0_0 (s0, 0, s) = rv_law12_TabAdds_4_0_0  s0 s := by
  unfold L_law12_TabAdds_4_0_0 rv_law12_TabAdds_4_0_0
  refine iterO_range0 s0 (rx_law12_TabAdds_4_0_0  s0) _ _ ?_ ?_ s (by unfold FUEL; omega)
  · intro i s d hi hd
    have e1 : decide ((i : Int) < (s0.length : Int)) = true := decide_eq_true (by omega)
    have e2 : decide (0 ≤ (i : Int)) = true := decide_eq_true (by omega)
    have e3 : Int.toNat (i : Int) = i := Int.toNat_natCast i
    have e4 := wrap_next hi (Nat.le_of_lt hl)
    show st_law12_TabAdds_4_0_0 (s0) ((i : Int)) (s) = upd _ (bd_law12_TabAdds_4_0_0  s0 i s d)
    unfold st_law12_TabAdds_4_0_0 bd_law12_TabAdds_4_0_0
    simp only [e1, e2, e3, e4, hd, cond_true, cond_false, optC_some, upd_cond, upd_optC, upd_elim, upd_inl, upd_inr, upd_none]
  · intro s
    have e1 : decide ((s0.length : Int) < (s0.length : Int)) = false := decide_eq_false (by omega)
    show st_law12_TabAdds_4_0_0 (s0) ((s0.length : Int)) (s) = _
    unfold st_law12_TabAdds_4_0_0 fn_law12_TabAdds_4_0_0
    rw [e1]
    rfl
noncomputable def bd_law12_TabAdds_4_2_0 (b0 : (List En)) (s0 : (List En)) (i : Nat)  (d : En) : Option (Unit ⊕ (Unit ⊕ Bool)) :=
  optC (G_tab_Add ([], [d], ())) (none) fun d7 ↦
   optC (G_tab_Leq (d7, b0, ())) (none) fun d8 ↦
   bif !d8 then
   some (Sum.inr (Sum.inr false))
 else some (Sum.inl ())
noncomputable def fn_law12_TabAdds_4_2_0 (b0 : (List En)) (s0 : (List En))  : Option (Unit ⊕ Bool) :=
  some (Sum.inl PUnit.unit)
noncomputable abbrev rx_law12_TabAdds_4_2_0 (b0 : (List En)) (s0 : (List En)) (i : Nat) (s : Unit) : ((List En) × Int × (List En)) := (s0, (i : Int), b0)
noncomputable def rv_law12_TabAdds_4_2_0 (b0 : (List En)) (s0 : (List En)) (s : Unit) : Option (Unit ⊕ Bool) := rangeO (fun i s d => bd_law12_TabAdds_4_2_0 b0 s0 i  d) (fun s => fn_law12_TabAdds_4_2_0 b0 s0 ) 0 s0 s
theorem rg_law12_TabAdds_4_2_0 (b0 : (List En)) (s0 : (List En)) (s : Unit) (hl : s0.length < 9223372036854775807) : L_law12_TabAdds_4_2_0 (s0, 0, b0) = rv_law12_TabAdds_4_2_0 b0 s0 s := by
  unfold L_law12_TabAdds_4_2_0 rv_law12_TabAdds_4_2_0
  refine iterO_range0 s0 (rx_law12_TabAdds_4_2_0 b0 s0) _ _ ?_ ?_ s (by unfold FUEL; omega)
  · intro i s d hi hd
    have e1 : decide ((i : Int) < (s0.length : Int)) = true := decide_eq_true (by omega)
    have e2 : decide (0 ≤ (i : Int)) = true := decide_eq_true (by omega)
    have e3 : Int.toNat (i : Int) = i := Int.toNat_natCast i
    have e4 := wrap_next hi (Nat.le_of_lt hl)
    show st_law12_TabAdds_4_2_0 (s0) ((i : Int)) (b0) = upd _ (bd_law12_TabAdds_4_2_0 b0 s0 i  d)
    unfold st_law12_TabAdds_4_2_0 bd_law12_TabAdds_4_2_0
    simp only [e1, e2, e3, e4, hd, cond_true, cond_false, optC_some, upd_cond, upd_optC, upd_elim, upd_inl, upd_inr, upd_none]
  · intro s
    have e1 : decide ((s0.length : Int) < (s0.length : Int)) = false := decide_eq_false (by omega)
    show st_law12_TabAdds_4_2_0 (s0) ((s0.length : Int)) (b0) = _
    unfold st_law12_TabAdds_4_2_0 fn_law12_TabAdds_4_2_0
    rw [e1]
    rfl
end Go.Proofs.Ytbdcblpjemmipaa.Ex

namespace Go.Proofs.Ytbdcblpjemmipaa.Ex
open Go.Proofs Go.Proofs.Ytbdcblpjemmipaa
set_option maxRecDepth 100000
set_option maxHeartbeats 2000000
set_option linter.unusedVariables false
set_option linter.unusedSimpArgs false
abbrev ty_185_0 : Type := (((List (List En)) × ((List Int) × (Unit × (Unit × (Int × (Int × Unit)))))) × ((List En) × Unit))
abbrev ty_185_1 : Type := (((List (List En)) × ((List Int) × (Bool × (Unit × (Int × (Int × Unit)))))) × ((List En) × Unit))
abbrev ty_185_2 : Type := (((List (List En)) × ((List Int) × (Unit × (Int × (Int × (Int × Unit)))))) × ((List En) × Unit))
abbrev ty_185_3 : Type := (((List (List En)) × ((List Int) × (Unit × (Int × (Int × Unit))))) × ((List En) × Unit))
abbrev ty_185_4 : Type := ((List (List En)) × (List Int) × Bool × Int × Int × (List En))
abbrev fn_185_0 := (fun (d : ty_185_2) => ((d.1.1, d.1.2.1, d.1.2.2.2.1, d.1.2.2.2.2.1, d.1.2.2.2.2.2.1, d.2.1) : ((List (List En)) × (List Int) × Int × Int × Int × (List En))))
abbrev fn_185_1 := (fun (x : ((List (List En)) × (List Int) × Int × Int × (List En))) => (((x.1, x.2.1, (), (), x.2.2.1, x.2.2.2.1, ()), (x.2.2.2.2, ())) : ty_185_0))
abbrev fn_185_2 := (fun (d : ty_185_3) => ((d.1.1, d.1.2.1, d.1.2.2.2.1, d.1.2.2.2.2.1, d.2.1) : ((List (List En)) × (List Int) × Int × Int × (List En))))
abbrev fn_185_3 := (fun (x : ty_185_4) => (((x.1, x.2.1, x.2.2.1, (), x.2.2.2.1, x.2.2.2.2.1, ()), (x.2.2.2.2.2, ())) : ty_185_1))
abbrev fn_185_4 := (fun (x : (Bool × Int)) => (((x.1, x.2, ()), ()) : ((Bool × (Int × Unit)) × Unit)))
abbrev fn_185_5 := (fun (x : Int) => ((((), x, ()), ()) : ((Unit × (Int × Unit)) × Unit)))
def ash_law12_TabGrows : List Sh := [.dat (.sl (.sl tEn)), .dat (.sl (.int .i64))]
def kp_law12_TabGrows_6_2 : Nat → List Nat := fun c => bif c.beq 0 then [0, 1, 5, 6, 7, 8] else [0, 1, 4, 5, 6, 7]
def kp_law12_TabGrows_6_0 : Nat → List Nat := fun c => bif c.beq 0 then [0, 1, 5, 6, 7] else [4, 6]
noncomputable def sp_law12_TabGrows : Nat → Option (List AV → Prog AV)
  | 12 => some (con_law12_tables)
  | 17 => some (con_tab_Join)
  | 24 => some (con_tab_Widen)
  | 23 => some (con_tab_Leq)
  | 22 => some (con_tab_Same)
  | 18 => some (con_law12_known)
  | _ => none
theorem hsp_law12_TabGrows : ∀ g p, sp_law12_TabGrows g = some p → SoundA Try.prog g p := by
  intro g p h
  unfold sp_law12_TabGrows at h
  split at h
  · cases h; exact snd_law12_tables
  · cases h; exact snd_tab_Join
  · cases h; exact snd_tab_Widen
  · cases h; exact snd_tab_Leq
  · cases h; exact snd_tab_Same
  · cases h; exact snd_law12_known
  · cases h
noncomputable def cx_law12_TabGrows0 : Ctx := { tab := tab, spec := sp_law12_TabGrows, inl := inl, lps := fun _ _ => none, fuel := 40 }
theorem in_law12_TabGrows0 : InlOk Try.prog cx_law12_TabGrows0 := ⟨inl_ok, fun _ _ _ _ _ _ _ _ h => nomatch h⟩
theorem cal_law12_TabGrows0 (g : Nat) : SoundA Try.prog g (evF cx_law12_TabGrows0 keeps 8 g) := evF_sound (tabOk_of tab_ok) (cmpsOk_of tab_ok cmps_ok) mixed in_law12_TabGrows0 hsp_law12_TabGrows keeps 8 g
noncomputable def F_law12_TabGrows_6_2 (base : Nat) : Tm → Prog (Nat × Tm) := evC cx_law12_TabGrows0 (evF cx_law12_TabGrows0 keeps 8) ⟨6, 71, keeps 6, base⟩ 2 (bodyX 6 2)
def s_law12_TabGrows_6_2_0 : StS := ⟨[(0, .sl (.sl tEn)), (1, .sl (.int .i64)), (5, .row 0), (6, .int .i64), (7, .int .i64), (8, .int .i64)], [(0, .row tEn)], 1⟩
def x_law12_TabGrows_6_2_0_0 : StS := ⟨[(0, .sl (.sl tEn)), (1, .sl (.int .i64)), (4, .undef), (5, .row 0), (6, .int .i64), (7, .int .i64)], [(0, .row tEn)], 1⟩
def x_law12_TabGrows_6_2_0_1 : StS := ⟨[(0, .sl (.sl tEn)), (1, .sl (.int .i64)), (4, .bool), (5, .row 0), (6, .int .i64), (7, .int .i64)], [(0, .row tEn)], 1⟩
noncomputable def st_law12_TabGrows_6_2_0 (s0 : (List (List En))) (s1 : (List Int)) (s6 : Int) (s7 : Int) (s8 : Int) (b0 : (List En)) : Option (((List (List En)) × (List Int) × Int × Int × Int × (List En)) ⊕ (((List (List En)) × (List Int) × Int × Int × (List En)) ⊕ ty_185_4)) :=
  bif decide (s8 < (↑s0.length : Int)) then
 bif decide (0 ≤ s8) then
 optC s0[s8.toNat]? none fun d9 ↦
 optC (G_tab_Join (b0, d9, ())) none fun d10 ↦
 optC (G_tab_Widen (b0, d10, s1, ())) none fun d11 ↦
 optC (G_tab_Leq (b0, d11, ())) none fun d12 ↦
 bif !d12 then some (Sum.inr (Sum.inr (s0, s1, false, s6, s7, b0)))
 else
 bif decide (0 ≤ s8) then
 optC s0[s8.toNat]? none fun d13 ↦
 optC (G_tab_Leq (d13, d11, ())) none fun d14 ↦
 bif !d14 then some (Sum.inr (Sum.inr (s0, s1, false, s6, s7, b0)))
 else
 bif s7 == 2 then
 optC (G_tab_Same (b0, d11, ())) none fun d15 ↦
 bif !d15 then some (Sum.inl (s0, s1, Go.IntKind.i64.wrap (s6 + 1), s7, Go.IntKind.i64.wrap (s8 + 1), d11))
 else some (Sum.inl (s0, s1, s6, s7, Go.IntKind.i64.wrap (s8 + 1), d11))
 else some (Sum.inl (s0, s1, s6, s7, Go.IntKind.i64.wrap (s8 + 1), d11))
 else none
 else none
 else some (Sum.inr (Sum.inl (s0, s1, s6, s7, b0)))
theorem rn_law12_TabGrows_6_2_0 (s0 : (List (List En))) (s1 : (List Int)) (s6 : Int) (s7 : Int) (s8 : Int) (b0 : (List En)) : rdX cx_law12_TabGrows0 keeps 8 ⟨6, 71, keeps 6, 0⟩ 2 (bodyX 6 2) 0 kp_law12_TabGrows_6_2 (sT s_law12_TabGrows_6_2_0 ((s0, s1, (), s6, s7, s8, ()), (b0, ()))) (sH s_law12_TabGrows_6_2_0 ((s0, s1, (), s6, s7, s8, ()), (b0, ()))) (rdO (fun T h => (rdS s_law12_TabGrows_6_2_0 T h).map fn_185_0) (getOr (getE 4 x_law12_TabGrows_6_2_0_0 (fun (d : ty_185_0) => ((d.1.1, d.1.2.1, d.1.2.2.2.2.1, d.1.2.2.2.2.2.1, d.2.1) : ((List (List En)) × (List Int) × Int × Int × (List En))))) (getE 1 x_law12_TabGrows_6_2_0_1 (fun (d : ty_185_1) => ((d.1.1, d.1.2.1, d.1.2.2.1, d.1.2.2.2.2.1, d.1.2.2.2.2.2.1, d.2.1) : ty_185_4))))) = st_law12_TabGrows_6_2_0 s0 s1 s6 s7 s8 b0 := by kernel_rfl
noncomputable def L_law12_TabGrows_6_2_0 (x : ((List (List En)) × (List Int) × Int × Int × Int × (List En))) : Option (((List (List En)) × (List Int) × Int × Int × (List En)) ⊕ ty_185_4) := iterO (fun x => st_law12_TabGrows_6_2_0 x.1 x.2.1 x.2.2.1 x.2.2.2.1 x.2.2.2.2.1 x.2.2.2.2.2) FUEL x
noncomputable def q_law12_TabGrows_6_2 : Nat → Tm → Prog (Nat × Tm) := (varP 0 (fun T h => (rdS s_law12_TabGrows_6_2_0 T h).map fn_185_0) L_law12_TabGrows_6_2_0 (fun y => .alt y (altE 4 x_law12_TabGrows_6_2_0_0 fn_185_1) (altE 1 x_law12_TabGrows_6_2_0_1 fn_185_3)) (fun _ _ => .fail))
theorem ok_law12_TabGrows_6_2 : VarOk kp_law12_TabGrows_6_2 F_law12_TabGrows_6_2 q_law12_TabGrows_6_2 := (varX_ok (s := s_law12_TabGrows_6_2_0) (un := (fun (x : ((List (List En)) × (List Int) × Int × Int × Int × (List En))) => (((x.1, x.2.1, (), x.2.2.1, x.2.2.2.1, x.2.2.2.2.1, ()), (x.2.2.2.2.2, ())) : ty_185_2))) (by rfl) (fun _ => rfl) (getOr_ok (getE_ok (s := x_law12_TabGrows_6_2_0_0) (un := fn_185_1) (by rfl) (fun _ => rfl)) (getE_ok (s := x_law12_TabGrows_6_2_0_1) (un := fn_185_3) (by rfl) (fun _ => rfl))) (step := fun x => st_law12_TabGrows_6_2_0 x.1 x.2.1 x.2.2.1 x.2.2.2.1 x.2.2.2.2.1 x.2.2.2.2.2) (fun x => rn_law12_TabGrows_6_2_0 x.1 x.2.1 x.2.2.1 x.2.2.2.1 x.2.2.2.2.1 x.2.2.2.2.2) (fun _ _ e => ⟨_, e⟩) (altOr_ok (altE_ok 4 x_law12_TabGrows_6_2_0_0 fn_185_1) (altE_ok 1 x_law12_TabGrows_6_2_0_1 fn_185_3)) (VarOk.fail _ _))
noncomputable def lpI_law12_TabGrows_6_2 (base : Nat) (T : Tm) : Prog (Nat × Tm) := .norm base (kp_law12_TabGrows_6_2 0) T (q_law12_TabGrows_6_2 base)
theorem sndI_law12_TabGrows_6_2 : SoundC Try.prog 71 (.loop (bodyX 6 2)) lpI_law12_TabGrows_6_2 := loopK_sound (cx := cx_law12_TabGrows0) (cal := evF cx_law12_TabGrows0 keeps 8) (kp := keeps 6) (tabOk_of tab_ok) (cmpsOk_of tab_ok cmps_ok) cal_law12_TabGrows0 mixed (hl_of (g := 6) (b := 2) in_law12_TabGrows0 (by kernel_rfl) (by kernel_rfl)) ok_law12_TabGrows_6_2
noncomputable def lpL_law12_TabGrows_6_2 : Nat → Tm → Prog (Nat × Tm) := (ownP [] [(5, tEn), (5, tEn), (5, tEn)] (kp_law12_TabGrows_6_2 0) lpI_law12_TabGrows_6_2)
theorem sndL_law12_TabGrows_6_2 : SoundC Try.prog 71 (.loop (bodyX 6 2)) lpL_law12_TabGrows_6_2 := (own_sound sndI_law12_TabGrows_6_2)
noncomputable def lp_law12_TabGrows1 : Nat → Nat → Option (Nat → Tm → Prog (Nat × Tm))
  | 6, 2 => some lpL_law12_TabGrows_6_2
  | _, _ => none
noncomputable def cx_law12_TabGrows1 : Ctx := { tab := tab, spec := sp_law12_TabGrows, inl := inl, lps := lp_law12_TabGrows1, fuel := 40 }
theorem in_law12_TabGrows1 : InlOk Try.prog cx_law12_TabGrows1 := ⟨inl_ok, fun g fn c hg hb q hq p hp => by
  change lp_law12_TabGrows1 g q.1 = some p at hp
  change inl g = some fn at hg
  generalize hq1 : q.1 = b at hp
  unfold lp_law12_TabGrows1 at hp
  split at hp
  · cases hp; exact lps_case (inl := inl) hg hb hq hq1 (by kernel_rfl) (by kernel_rfl) sndL_law12_TabGrows_6_2
  · cases hp⟩
theorem cal_law12_TabGrows1 (g : Nat) : SoundA Try.prog g (evF cx_law12_TabGrows1 keeps 8 g) := evF_sound (tabOk_of tab_ok) (cmpsOk_of tab_ok cmps_ok) mixed in_law12_TabGrows1 hsp_law12_TabGrows keeps 8 g
noncomputable def F_law12_TabGrows_6_0 (base : Nat) : Tm → Prog (Nat × Tm) := evC cx_law12_TabGrows1 (evF cx_law12_TabGrows1 keeps 8) ⟨6, 71, keeps 6, base⟩ 0 (bodyX 6 0)
def s_law12_TabGrows_6_0_0 : StS := ⟨[(0, .sl (.sl tEn)), (1, .sl (.int .i64)), (5, .row 0), (6, .int .i64), (7, .int .i64)], [(0, .row tEn)], 1⟩
def x_law12_TabGrows_6_0_0_0 : StS := ⟨[(4, .undef), (6, .int .i64)], [], 0⟩
def x_law12_TabGrows_6_0_0_1 : StS := ⟨[(4, .bool), (6, .int .i64)], [], 0⟩
noncomputable def st_law12_TabGrows_6_0_0 (s0 : (List (List En))) (s1 : (List Int)) (s6 : Int) (s7 : Int) (b0 : (List En)) : Option (((List (List En)) × (List Int) × Int × Int × (List En)) ⊕ (Int ⊕ (Bool × Int))) :=
  bif decide (s7 < 3) then
 optC (L_law12_TabGrows_6_2_0 (s0, s1, s6, s7, 0, b0)) none fun d8 ↦
 Sum.elim (fun e9 ↦ some (Sum.inl (e9.1, e9.2.1, e9.2.2.1, Go.IntKind.i64.wrap (e9.2.2.2.1 + 1), e9.2.2.2.2)))
 (fun e9 ↦ some (Sum.inr (Sum.inr (e9.2.2.1, e9.2.2.2.1)))) d8
 else some (Sum.inr (Sum.inl s6))
theorem rn_law12_TabGrows_6_0_0 (s0 : (List (List En))) (s1 : (List Int)) (s6 : Int) (s7 : Int) (b0 : (List En)) : rdX cx_law12_TabGrows1 keeps 8 ⟨6, 71, keeps 6, 0⟩ 0 (bodyX 6 0) 0 kp_law12_TabGrows_6_0 (sT s_law12_TabGrows_6_0_0 ((s0, s1, (), s6, s7, ()), (b0, ()))) (sH s_law12_TabGrows_6_0_0 ((s0, s1, (), s6, s7, ()), (b0, ()))) (rdO (fun T h => (rdS s_law12_TabGrows_6_0_0 T h).map fn_185_2) (getOr (getE 2 x_law12_TabGrows_6_0_0_0 (fun (d : ((Unit × (Int × Unit)) × Unit)) => ((d.1.2.1) : Int))) (getE 1 x_law12_TabGrows_6_0_0_1 (fun (d : ((Bool × (Int × Unit)) × Unit)) => ((d.1.1, d.1.2.1) : (Bool × Int)))))) = st_law12_TabGrows_6_0_0 s0 s1 s6 s7 b0 := by kernel_rfl
noncomputable def L_law12_TabGrows_6_0_0 (x : ((List (List En)) × (List Int) × Int × Int × (List En))) : Option (Int ⊕ (Bool × Int)) := iterO (fun x => st_law12_TabGrows_6_0_0 x.1 x.2.1 x.2.2.1 x.2.2.2.1 x.2.2.2.2) FUEL x
noncomputable def q_law12_TabGrows_6_0 : Nat → Tm → Prog (Nat × Tm) := (varP 0 (fun T h => (rdS s_law12_TabGrows_6_0_0 T h).map fn_185_2) L_law12_TabGrows_6_0_0 (fun y => .alt y (altE 2 x_law12_TabGrows_6_0_0_0 fn_185_5) (altE 1 x_law12_TabGrows_6_0_0_1 fn_185_4)) (fun _ _ => .fail))
theorem ok_law12_TabGrows_6_0 : VarOk kp_law12_TabGrows_6_0 F_law12_TabGrows_6_0 q_law12_TabGrows_6_0 := (varX_ok (s := s_law12_TabGrows_6_0_0) (un := (fun (x : ((List (List En)) × (List Int) × Int × Int × (List En))) => (((x.1, x.2.1, (), x.2.2.1, x.2.2.2.1, ()), (x.2.2.2.2, ())) : ty_185_3))) (by rfl) (fun _ => rfl) (getOr_ok (getE_ok (s := x_law12_TabGrows_6_0_0_0) (un := fn_185_5) (by rfl) (fun _ => rfl)) (getE_ok (s := x_law12_TabGrows_6_0_0_1) (un := fn_185_4) (by rfl) (fun _ => rfl))) (step := fun x => st_law12_TabGrows_6_0_0 x.1 x.2.1 x.2.2.1 x.2.2.2.1 x.2.2.2.2) (fun x => rn_law12_TabGrows_6_0_0 x.1 x.2.1 x.2.2.1 x.2.2.2.1 x.2.2.2.2) (fun _ _ e => ⟨_, e⟩) (altOr_ok (altE_ok 2 x_law12_TabGrows_6_0_0_0 fn_185_5) (altE_ok 1 x_law12_TabGrows_6_0_0_1 fn_185_4)) (VarOk.fail _ _))
noncomputable def lpI_law12_TabGrows_6_0 (base : Nat) (T : Tm) : Prog (Nat × Tm) := .norm base (kp_law12_TabGrows_6_0 0) T (q_law12_TabGrows_6_0 base)
theorem sndI_law12_TabGrows_6_0 : SoundC Try.prog 71 (.loop (bodyX 6 0)) lpI_law12_TabGrows_6_0 := loopK_sound (cx := cx_law12_TabGrows1) (cal := evF cx_law12_TabGrows1 keeps 8) (kp := keeps 6) (tabOk_of tab_ok) (cmpsOk_of tab_ok cmps_ok) cal_law12_TabGrows1 mixed (hl_of (g := 6) (b := 0) in_law12_TabGrows1 (by kernel_rfl) (by kernel_rfl)) ok_law12_TabGrows_6_0
noncomputable def lpL_law12_TabGrows_6_0 : Nat → Tm → Prog (Nat × Tm) := (ownP [] [(5, tEn)] (kp_law12_TabGrows_6_0 0) lpI_law12_TabGrows_6_0)
theorem sndL_law12_TabGrows_6_0 : SoundC Try.prog 71 (.loop (bodyX 6 0)) lpL_law12_TabGrows_6_0 := (own_sound sndI_law12_TabGrows_6_0)
noncomputable def lp_law12_TabGrows : Nat → Nat → Option (Nat → Tm → Prog (Nat × Tm))
  | 6, 2 => some lpL_law12_TabGrows_6_2
  | 6, 0 => some lpL_law12_TabGrows_6_0
  | _, _ => none
noncomputable def cx_law12_TabGrows : Ctx := { tab := tab, spec := sp_law12_TabGrows, inl := inl, lps := lp_law12_TabGrows, fuel := 40 }
theorem in_law12_TabGrows : InlOk Try.prog cx_law12_TabGrows := ⟨inl_ok, fun g fn c hg hb q hq p hp => by
  change lp_law12_TabGrows g q.1 = some p at hp
  change inl g = some fn at hg
  generalize hq1 : q.1 = b at hp
  unfold lp_law12_TabGrows at hp
  split at hp
  · cases hp; exact lps_case (inl := inl) hg hb hq hq1 (by kernel_rfl) (by kernel_rfl) sndL_law12_TabGrows_6_2
  · cases hp; exact lps_case (inl := inl) hg hb hq hq1 (by kernel_rfl) (by kernel_rfl) sndL_law12_TabGrows_6_0
  · cases hp⟩
theorem cal_law12_TabGrows (g : Nat) : SoundA Try.prog g (evF cx_law12_TabGrows keeps 8 g) := evF_sound (tabOk_of tab_ok) (cmpsOk_of tab_ok cmps_ok) mixed in_law12_TabGrows hsp_law12_TabGrows keeps 8 g
noncomputable def g_law12_TabGrows (a0 : (List (List En))) (a1 : (List Int)) : Option Bool :=
  bif decide ((↑a0.length : Int) > 10) then some true
 else
 optC (G_law12_tables (a0, ())) none fun d5 ↦
 bif !d5 then some true
 else
 bif decide ((↑a1.length : Int) > 10) then some true
 else
 optC (L_law12_TabGrows_6_0_0 (a0, a1, 0, 0, [])) none fun d6 ↦
 Sum.elim (fun e7 ↦ bif e7 == 0 then some (decide (1 > 0)) else some false) (fun e7 ↦ some e7.1) d6
theorem raw_law12_TabGrows (a0 : (List (List En))) (a1 : (List Int)) : evGX cx_law12_TabGrows keeps 8 6 ash_law12_TabGrows (.dat .bool) ((a0, a1, ()) : ((List (List En)) × ((List Int) × Unit))) = g_law12_TabGrows a0 a1 := by kernel_rfl
noncomputable def G_law12_TabGrows (x : ((List (List En)) × ((List Int) × Unit))) : Option Bool := g_law12_TabGrows x.1 x.2.1
noncomputable def con_law12_TabGrows : List AV → Prog AV := conP true ash_law12_TabGrows (.dat .bool) G_law12_TabGrows
theorem snd_law12_TabGrows : SoundA Try.prog 6 con_law12_TabGrows := conP_sound (cal_law12_TabGrows 6) true (by rfl) (by rfl) (fun x r e => (evGX_eq _ _ _ _ _ _ _).trans ((raw_law12_TabGrows x.1 x.2.1).trans e)) (.inl rfl)
end Go.Proofs.Ytbdcblpjemmipaa.Ex

namespace Go.Proofs.Ytbdcblpjemmipaa.Ex
set_option maxRecDepth 100000
set_option maxHeartbeats 2000000
set_option linter.unusedVariables false
set_option linter.unusedSimpArgs false
abbrev ty_186_0 : Type := ((List (List En)) × (List Int) × Bool × Int × Int × (List En))
noncomputable def bd_law12_TabGrows_6_2_0 (s1 : (List Int)) (s7 : Int) (s0 : (List (List En))) (i : Nat) (s6 : Int) (b0 : (List En)) (d : (List En)) : Option ((Int × (List En)) ⊕ (((List (List En)) × (List Int) × Int × Int × (List En)) ⊕ ty_186_0)) :=
  optC (G_tab_Join (b0, d, ())) (none) fun d10 ↦
   optC (G_tab_Widen (b0, d10, s1, ())) (none) fun d11 ↦
   optC (G_tab_Leq (b0, d11, ())) (none) fun d12 ↦
   bif !d12 then
   some (Sum.inr (Sum.inr (s0, s1, false, s6, s7, b0)))
 else optC (G_tab_Leq (d, d11, ())) (none) fun d14 ↦
   bif !d14 then
   some (Sum.inr (Sum.inr (s0, s1, false, s6, s7, b0)))
 else bif s7 == 2 then
   optC (G_tab_Same (b0, d11, ())) (none) fun d15 ↦
   bif !d15 then
   some (Sum.inl (Go.IntKind.i64.wrap (s6 + 1), d11))
 else some (Sum.inl (s6, d11))
 else some (Sum.inl (s6, d11))
noncomputable def fn_law12_TabGrows_6_2_0 (s1 : (List Int)) (s7 : Int) (s0 : (List (List En))) (s6 : Int) (b0 : (List En)) : Option (((List (List En)) × (List Int) × Int × Int × (List En)) ⊕ ty_186_0) :=
  some (Sum.inl (s0, s1, s6, s7, b0))
noncomputable abbrev rx_law12_TabGrows_6_2_0 (s1 : (List Int)) (s7 : Int) (s0 : (List (List En))) (i : Nat) (s : (Int × (List En))) : ((List (List En)) × (List Int) × Int × Int × Int × (List En)) := (s0, s1, s.1, s7, (i : Int), s.2)
noncomputable def rv_law12_TabGrows_6_2_0 (s1 : (List Int)) (s7 : Int) (s0 : (List (List En))) (s : (Int × (List En))) : Option (((List (List En)) × (List Int) × Int × Int × (List En)) ⊕ ty_186_0) := rangeO (fun i s d => bd_law12_TabGrows_6_2_0 s1 s7 s0 i s.1 s.2 d) (fun s => fn_law12_TabGrows_6_2_0 s1 s7 s0 s.1 s.2) 0 s0 s
theorem rg_law12_TabGrows_6_2_0 (s1 : (List Int)) (s7 : Int) (s0 : (List (List En))) (s : (Int × (List En))) (hl : s0.length < 9223372036854775807) : L_law12_TabGrows_6_2_0 (s0, s1, s.1, s7, 0, s.2) = rv_law12_TabGrows_6_2_0 s1 s7 s0 s := by
  unfold L_law12_TabGrows_6_2_0 rv_law12_TabGrows_6_2_0
  refine iterO_range0 s0 (rx_law12_TabGrows_6_2_0 s1 s7 s0) _ _ ?_ ?_ s (by unfold FUEL; omega)
  · intro i s d hi hd
    have e1 : decide ((i : Int) < (s0.length : Int)) = true := decide_eq_true (by omega)
    have e2 : decide (0 ≤ (i : Int)) = true := decide_eq_true (by omega)
    have e3 : Int.toNat (i : Int) = i := Int.toNat_natCast i
    have e4 := wrap_next hi (Nat.le_of_lt hl)
    show st_law12_TabGrows_6_2_0 (s0) (s1) (s.1) (s7) ((i : Int)) (s.2) = upd _ (bd_law12_TabGrows_6_2_0 s1 s7 s0 i s.1 s.2 d)
    unfold st_law12_TabGrows_6_2_0 bd_law12_TabGrows_6_2_0
    simp only [e1, e2, e3, e4, hd, cond_true, cond_false, optC_some, upd_cond, upd_optC, upd_elim, upd_inl, upd_inr, upd_none]
  · intro s
    have e1 : decide ((s0.length : Int) < (s0.length : Int)) = false := decide_eq_false (by omega)
    show st_law12_TabGrows_6_2_0 (s0) (s1) (s.1) (s7) ((s0.length : Int)) (s.2) = _
    unfold st_law12_TabGrows_6_2_0 fn_law12_TabGrows_6_2_0
    rw [e1]
    rfl
end Go.Proofs.Ytbdcblpjemmipaa.Ex

namespace Go.Proofs.Ytbdcblpjemmipaa.Ex
open Go.Proofs
set_option maxRecDepth 100000
set_option maxHeartbeats 2000000
set_option linter.unusedVariables false
set_option linter.unusedSimpArgs false
theorem back_go (L : List En) : ∀ (r : List En) (j : Nat) (s : List En), s.length + r.length ≤ 30 →
    (∃ x, rangeO (fun i s d => bd_law12_TabAdds_4_0_0 L i s d) (fun s => fn_law12_TabAdds_4_0_0 L s) j r s = some (.inr (L, true, x))) ∨
    ((∀ e ∈ r, okA e) ∧ rangeO (fun i s d => bd_law12_TabAdds_4_0_0 L i s d) (fun s => fn_law12_TabAdds_4_0_0 L s) j r s = some (.inl (L, r.reverse ++ s)))
  | [], j, s, _ => .inr ⟨(fun e h => nomatch h), rfl⟩
  | d :: r, j, s, hn => by
    simp only [List.length_cons] at hn
    have hb : bd_law12_TabAdds_4_0_0 L j s d = bif okAB d then some (.inl (d :: s)) else some (.inr (.inr (L, true, s))) := by
      unfold bd_law12_TabAdds_4_0_0 okAB G_ref2_Is
      simp only [n_ref2_Is, optC_some]
      show (bif !isB (vl d) then _ else _) = _
      cases isB (vl d)
      · rfl
      · by_cases q1 : d.2.2.2.1 < 0
        · rw [decide_eq_true q1]; rfl
        · by_cases q2 : d.2.2.2.1 ≥ 2147483648
          · rw [decide_eq_false q1, decide_eq_true q2]; rfl
          · rw [decide_eq_false q1, decide_eq_false q2, show decide (([d].length + s.length + 1) * 48 ≤ lim) = true from decide_eq_true (by simp only [List.length_cons, List.length_nil]; unfold lim; omega)]; rfl
    cases hq : okAB d
    · rw [hq] at hb
      exact .inl ⟨s, by rw [rangeO, hb]; rfl⟩
    · rw [hq] at hb
      rw [rangeO_inl hb]
      rcases back_go L r (j + 1) (d :: s) (by rw [List.length_cons]; omega) with h | ⟨h1, h2⟩
      · exact .inl h
      · refine .inr ⟨fun e he => ?_, by rw [h2, List.reverse_cons, List.append_assoc]; rfl⟩
        rcases List.mem_cons.1 he with rfl | he
        · exact okAB_ok hq
        · exact h1 e he
theorem oneO_comm (k : Ky) (o : Option I) (x y : En) : oneO iJoin k (oneO iJoin k o x) y = oneO iJoin k (oneO iJoin k o y) x := by
  unfold oneO
  by_cases h1 : empB (vl x) = true
  · simp only [h1, if_true]
  · by_cases h2 : empB (vl y) = true
    · simp only [h2, if_true]
    · by_cases h3 : ky x = k
      · by_cases h4 : ky y = k
        · simp only [h1, h2, h3, h4, if_true, Bool.false_eq_true, if_false]
          cases o with
          | none => simp only [optV]; rw [join_comm]
          | some u => simp only [optV]; rw [join_swap]
        · simp only [h1, h2, h3, h4, if_true, Bool.false_eq_true, if_false]
      · simp only [h1, h2, h3, if_true, Bool.false_eq_true, if_false]
theorem fold_rev (k : Ky) (l : List En) (o : Option I) : l.reverse.foldl (oneO iJoin k) o = l.foldl (oneO iJoin k) o :=
  (List.reverse_perm l).foldl_eq' (fun x _ y _ z => oneO_comm k z x y) o
theorem add_rev (l : List En) : addT iJoin [] l.reverse = addT iJoin [] l := by
  have h0 : srt [] := List.Pairwise.nil
  refine tab_ext (add_srt h0) (add_srt h0) fun k => ?_
  rw [add_get k h0, add_get k h0, fold_rev]
theorem one_up {k : Ky} (o : Option I) (e : En) (u : I) (h : o = some u) : ∃ v, oneO iJoin k o e = some v ∧ leqB u v = true := by
  subst h
  unfold oneO
  split
  · exact ⟨u, rfl, leq_self u⟩
  · split
    · exact ⟨_, rfl, join_l u _⟩
    · exact ⟨u, rfl, leq_self u⟩
theorem fold_up {k : Ky} : ∀ (l : List En) (o : Option I) (u : I), o = some u → ∃ v, l.foldl (oneO iJoin k) o = some v ∧ leqB u v = true
  | [], o, u, h => ⟨u, h, leq_self u⟩
  | e :: r, o, u, h => by
    obtain ⟨v, hv, l1⟩ := one_up (k := k) o e u h
    obtain ⟨w, hw, l2⟩ := fold_up r _ v hv
    exact ⟨w, hw, leq_trans l1 l2⟩
theorem fold_mem {e : En} (he : empB (vl e) = false) : ∀ (l : List En) (o : Option I), e ∈ l → ∃ v, l.foldl (oneO iJoin (ky e)) o = some v ∧ leqB (vl e) v = true
  | d :: r, o, h => by
    rw [List.foldl_cons]
    rcases List.mem_cons.1 h with rfl | h
    · have : ∃ v, oneO iJoin (ky e) o e = some v ∧ leqB (vl e) v = true := by
        unfold oneO
        rw [if_neg (by rw [he]; decide), if_pos rfl]
        cases o with
        | none => exact ⟨_, rfl, leq_self _⟩
        | some u => exact ⟨_, rfl, join_r2 u _⟩
      obtain ⟨v, hv, l1⟩ := this
      obtain ⟨w, hw, l2⟩ := fold_up r _ v hv
      exact ⟨w, hw, leq_trans l1 l2⟩
    · exact fold_mem he r _ h
theorem one_in (l : List En) (e : En) (h : e ∈ l) : leqTB (addT iJoin [] [e]) (addT iJoin [] l) = true := by
  have h0 : srt [] := List.Pairwise.nil
  refine (leqT_iff (add_srt h0)).2 fun x hx => ?_
  have : x = e ∧ empB (vl e) = false := by
    have hx : x ∈ stpT iJoin [] e := hx
    unfold stpT at hx
    split at hx
    · cases hx
    · rename_i q
      simp only [pinT, List.mem_singleton] at hx
      exact ⟨hx, by simpa using q⟩
  obtain ⟨rfl, he⟩ := this
  rw [add_get _ h0]
  exact fold_mem he l _ h
theorem tabAdds (l : List En) : g_law12_TabAdds l = some true := by
  unfold g_law12_TabAdds
  by_cases hl : (l.length : Int) > 30
  · rw [decide_eq_true hl]; rfl
  rw [decide_eq_false hl, rg_law12_TabAdds_4_0_0 l [] (by omega)]
  unfold rv_law12_TabAdds_4_0_0
  have h0 : srt [] := List.Pairwise.nil
  rcases back_go l l 0 [] (by simp only [List.length_nil]; omega) with ⟨x, h⟩ | ⟨hk, h⟩
  · rw [h]; rfl
  rw [h, List.append_nil]
  have ka : tabOK (addT iJoin [] l) := tab_add okF_join ⟨(fun x h => nomatch h), (fun i a b h => nomatch h)⟩ hk
  have la := add_len iJoin l []
  simp only [List.length_nil, Nat.zero_add] at la
  have e1 := n_tab_Add [] l h0 (by simp only [List.length_nil]; omega)
  have e2 := n_tab_Add [] l.reverse h0 (by simp only [List.length_nil, List.length_reverse]; omega)
  rw [add_rev] at e2
  have i1 := n_ref12_Is (addT iJoin [] l) (by omega)
  rw [isTab_of ka.e ka.srt] at i1
  have s1 := n_tab_Same (addT iJoin [] l) (addT iJoin [] l) (by omega)
  rw [decide_eq_true rfl] at s1
  have lp : L_law12_TabAdds_4_2_0 (l, 0, addT iJoin [] l) = some (.inl ()) := by
    rw [rg_law12_TabAdds_4_2_0 (addT iJoin [] l) l () (by omega)]
    unfold rv_law12_TabAdds_4_2_0
    rw [rangeO_id l 0 fun j d hd => ?_]
    · rfl
    · unfold bd_law12_TabAdds_4_2_0
      have f1 := n_tab_Add [] [d] h0 (by simp)
      have f3 := add_len iJoin [d] []
      simp only [List.length_nil, List.length_singleton] at f3
      have f2 := n_tab_Leq (addT iJoin [] [d]) (addT iJoin [] l) ka.srt (by omega) (by omega)
      rw [one_in l d (List.mem_of_getElem? hd)] at f2
      simp only [G_tab_Add, f1, G_tab_Leq, f2, optC_some]
      rfl
  simp only [cond_false, cond_true, Bool.not_true, Bool.not_false, optC_some, Sum.elim_inl, G_tab_Add, e1, e2, G_ref12_Is, i1, G_tab_Same, s1, lp]
  rfl
def widT (st : List Int) (x l : List En) : List En := addT (widF st) x (addT iJoin x l)
theorem len_eq {a b : List En} (ha : srt a) (hb : srt b) (h : ∀ k, (tget a k).isSome = (tget b k).isSome) : a.length = b.length := by
  have hg : ∀ e, ky (setV e nn) = ky e := fun e => rfl
  have e : a.map (fun e => setV e nn) = b.map (fun e => setV e nn) := by
    refine tab_ext (map_srt hg ha) (map_srt hg hb) fun k => ?_
    rw [map_get hg, map_get hg]
    have := h k
    unfold tget at this
    rw [Option.isSome_map, Option.isSome_map] at this
    cases hA : a.find? fun e => ky e == k <;> cases hB : b.find? fun e => ky e == k <;> rw [hA, hB] at this <;> first | rfl | cases this
  have := congrArg List.length e
  rwa [List.length_map, List.length_map] at this
theorem widT_ok {st : List Int} {x l : List En} (kx : tabOK x) (kl : tabOK l) : tabOK (widT st x l) := tab_add (okF_wid st) kx (tab_add okF_join kx kl.a).a
theorem widT_len {st : List Int} {x l : List En} (kx : tabOK x) (kl : tabOK l) : (widT st x l).length ≤ x.length + l.length := by
  have kj := tab_add okF_join kx kl.a
  have : (widT st x l).length = (addT iJoin x l).length := len_eq (widT_ok kx kl).srt kj.srt fun k => by
    unfold widT
    rw [add_tab k kj.srt kj.e kx.srt, add_tab k kl.srt kl.e kx.srt]
    cases tget x k <;> cases tget l k <;> rfl
  rw [this]; exact add_len iJoin l x
theorem widT_l {st : List Int} {x l : List En} (kx : tabOK x) (kl : tabOK l) : leG x (widT st x l) := up_l (upF_wid st) kx (tab_add okF_join kx kl.a)
theorem widT_r {st : List Int} {x l : List En} (kx : tabOK x) (kl : tabOK l) : leG l (widT st x l) :=
  leG_trans (up_r upF_join kx kl) (up_r (upF_wid st) kx (tab_add okF_join kx kl.a))
theorem join_abs {u v : I} (eu : empB u = false) (h : leqB v u = true) (ev : empB v = false) : iJoin u v = u := by
  have h := (ne_leq h ev).1
  unfold sub at h
  unfold iJoin
  rw [eu, ev]
  simp only [Bool.false_eq_true, if_false]
  obtain ⟨a, b⟩ := u
  obtain ⟨c, d⟩ := v
  simp only at h
  simp only [mn, mx, Prod.mk.injEq]
  constructor <;> split <;> omega
theorem wid_self {u : I} (eu : empB u = false) (st : List Int) : widV u u st = u := by
  unfold widV
  have hj : iJoin u u = u := join_abs eu (leq_self u) eu
  rw [eu, hj]
  simp only [Bool.false_eq_true, if_false, Int.lt_irrefl, gt_iff_lt]
theorem widT_self {st : List Int} {x l : List En} (kx : tabOK x) (kl : tabOK l) (h : leG l x) : widT st x l = x := by
  have kj := tab_add okF_join kx kl.a
  have hj : addT iJoin x l = x := tab_ext kj.srt kx.srt fun k => by
    rw [add_tab k kl.srt kl.e kx.srt]
    cases hl : tget l k with
    | none => rfl
    | some v =>
      obtain ⟨u, hu, hle⟩ := h k v hl
      rw [hu]
      simp only [bothO, optV]
      rw [join_abs (get_is kx.e hu).2 hle (get_is kl.e hl).2]
  unfold widT
  rw [hj]
  refine tab_ext (add_srt kx.srt) kx.srt fun k => ?_
  rw [add_tab k kx.srt kx.e kx.srt]
  cases hu : tget x k with
  | none => rfl
  | some u =>
    simp only [bothO, optV]
    unfold widF
    rw [wid_self (get_is kx.e hu).2]
theorem grow_go (st : List Int) (hst : st.length < 9223372036854775807) (L : List (List En)) (k n : Int) : ∀ (r : List (List En)) (j : Nat) (x : List En), tabOK x → x.length + 60 * r.length ≤ 100000000 → (∀ l ∈ r, l.length ≤ 60 ∧ tabOK l) → (k = 2 → ∀ l ∈ r, leG l x) →
    ∃ y, rangeO (fun i s d => bd_law12_TabGrows_6_2_0 st k L i s.1 s.2 d) (fun s => fn_law12_TabGrows_6_2_0 st k L s.1 s.2) j r (n, x) = some (.inl (L, st, n, k, y)) ∧ tabOK y ∧ y.length ≤ x.length + 60 * r.length ∧ leG x y ∧ ∀ l ∈ r, leG l y
  | [], j, x, kx, _, _, _ => ⟨x, rfl, kx, by omega, leG_refl x, (fun l h => nomatch h)⟩
  | l :: r, j, x, kx, hn, hk, h2 => by
    obtain ⟨ll, kl⟩ := hk l (List.mem_cons_self ..)
    simp only [List.length_cons] at hn
    have kj := tab_add okF_join kx kl.a
    have kw := widT_ok (st := st) kx kl
    have lj := add_len iJoin l x
    have lw := widT_len (st := st) kx kl
    have e1 := n_tab_Join x l kx.srt (by omega)
    have e2 := n_tab_Widen x (addT iJoin x l) st hst kx.srt (by omega)
    have e3 := n_tab_Leq x (widT st x l) kw.srt (by omega) (by omega)
    rw [leqT_of kx.srt kw.srt (widT_l kx kl)] at e3
    have e4 := n_tab_Leq l (widT st x l) kw.srt (by omega) (by omega)
    rw [leqT_of kl.srt kw.srt (widT_r kx kl)] at e4
    have hb : bd_law12_TabGrows_6_2_0 st k L j n x l = some (.inl (n, widT st x l)) := by
      unfold bd_law12_TabGrows_6_2_0
      simp only [G_tab_Join, e1, G_tab_Widen, e2, optC_some, G_tab_Leq, show addT (widF st) x (addT iJoin x l) = widT st x l from rfl, e3, e4, Bool.not_true, cond_false]
      by_cases hk2 : k = 2
      · have hself := widT_self (st := st) kx kl (h2 hk2 l (List.mem_cons_self ..))
        have s1 := n_tab_Same x (widT st x l) (by omega)
        rw [decide_eq_true hself.symm] at s1
        rw [show (k == 2) = true from beq_iff_eq.2 hk2]
        simp only [cond_true, G_tab_Same, s1, optC_some, Bool.not_true, cond_false]
      · rw [show (k == 2) = false from beq_eq_false_iff_ne.2 hk2]; rfl
    obtain ⟨y, y1, y2, y3, y4, y5⟩ := grow_go st hst L k n r (j + 1) (widT st x l) kw (by omega) (fun z hz => hk z (List.mem_cons_of_mem _ hz))
      (fun hk2 z hz => leG_trans (h2 hk2 z (List.mem_cons_of_mem _ hz)) (widT_l kx kl))
    refine ⟨y, (rangeO_inl hb).trans y1, y2, by rw [List.length_cons]; omega, leG_trans (widT_l kx kl) y4, fun z hz => ?_⟩
    rcases List.mem_cons.1 hz with rfl | hz
    · exact leG_trans (widT_r kx kl) y4
    · exact y5 z hz
theorem tabGrows (ls : List (List En)) (st : List Int) : g_law12_TabGrows ls st = some true := by
  unfold g_law12_TabGrows G_law12_tables
  by_cases hn : (ls.length : Int) > 10
  · rw [decide_eq_true hn]; rfl
  obtain ⟨p, hp, hk⟩ := n_law12_tables ls (by omega)
  rw [decide_eq_false hn]
  simp only [hp, optC_some, cond_false]
  cases p
  · rfl
  by_cases hs : (st.length : Int) > 10
  · rw [decide_eq_true hs]; rfl
  rw [decide_eq_false hs]
  have hst : st.length < 9223372036854775807 := by omega
  have hk := hk rfl
  have k0 : tabOK [] := ⟨(fun x h => nomatch h), (fun i a b h => nomatch h)⟩
  have inner : ∀ (k : Int) (x : List En), tabOK x → x.length ≤ 10000 → (k = 2 → ∀ l ∈ ls, leG l x) → ∃ y, L_law12_TabGrows_6_2_0 (ls, st, 0, k, 0, x) = some (.inl (ls, st, 0, k, y)) ∧ tabOK y ∧ y.length ≤ x.length + 60 * ls.length ∧ leG x y ∧ ∀ l ∈ ls, leG l y := fun k x kx lx h2 => by
    obtain ⟨y, y1, y2⟩ := grow_go st hst ls k 0 ls 0 x kx (by omega) hk h2
    exact ⟨y, (rg_law12_TabGrows_6_2_0 st k ls (0, x) (by omega)).trans y1, y2⟩
  obtain ⟨x1, a1, b1, c1, d1, f1⟩ := inner 0 [] k0 (by simp) (fun h => absurd h (by decide))
  obtain ⟨x2, a2, b2, c2, d2, f2⟩ := inner 1 x1 b1 (by simp only [List.length_nil] at c1; omega) (fun h => absurd h (by decide))
  obtain ⟨x3, a3, b3, c3, d3, f3⟩ := inner 2 x2 b2 (by simp only [List.length_nil] at c1; omega) (fun _ => f2)
  have step : ∀ (k k' : Int) (x y : List En), k' = k + 1 → k < 3 → 0 ≤ k → L_law12_TabGrows_6_2_0 (ls, st, 0, k, 0, x) = some (.inl (ls, st, 0, k, y)) → st_law12_TabGrows_6_0_0 ls st 0 k x = some (.inl (ls, st, 0, k', y)) := fun k k' x y e hk h0 h => by
    subst e
    unfold st_law12_TabGrows_6_0_0
    rw [decide_eq_true hk, h]
    simp only [cond_true, optC_some, Sum.elim_inl]
    rw [show IntKind.i64.wrap (k + 1) = k + 1 from wr (by omega)]
  have lp : L_law12_TabGrows_6_0_0 (ls, st, 0, 0, []) = some (.inl 0) := by
    unfold L_law12_TabGrows_6_0_0
    refine iterO_mono 4 FUEL _ _ (by decide) ?_
    rw [iterO]
    simp only [step 0 1 [] x1 rfl (by decide) (by decide) a1]
    rw [iterO]
    simp only [step 1 2 x1 x2 rfl (by decide) (by decide) a2]
    rw [iterO]
    simp only [step 2 3 x2 x3 rfl (by decide) (by decide) a3]
    rfl
  simp only [Bool.not_true, cond_false, lp, optC_some, Sum.elim_inl]
  rfl
end Go.Proofs.Ytbdcblpjemmipaa.Ex

namespace Go.Proofs.Ytbdcblpjemmipaa.Ex
set_option linter.unusedSectionVars false
section
variable [RT]

theorem law_con {sh : List Sh} {G : ShDs sh → Option Bool} {args : List AV} {x : ShDs sh} (h1 : rds sh args = some x) (h2 : AV.idsL args = []) (h3 : G x = some true) :
    ∃ fb, ex ((conP true sh (.dat .bool) G args).bind (finP true)) false ⟨[], 0⟩ ⟨[], []⟩ = some (.bool true, ⟨[], 0⟩, fb) := by
  refine ⟨⟨[], []⟩, ?_⟩
  unfold ex conP
  rw [frzL_free true args _ h2, h1]
  simp only [Prog.bind, run, Option.bind_some]
  exact (congrArg (fun o => Option.bind o _) h3).trans (finP_free _ rfl _ _ _)
end
end Go.Proofs.Ytbdcblpjemmipaa.Ex

