/- A part of the proofs of the laws of flow: ZI. -/
import Derived.Test.YtbdcblpjemmipaaZF
import Derived.Test.YtbdcblpjemmipaaZG
import Derived.Test.YtbdcblpjemmipaaZH
import Derived.Test.YtbdcblpjemmipaaZD
namespace Go.Proofs.Ytbdcblpjemmipaa.Ex
open Go.Proofs Go.Proofs.Ytbdcblpjemmipaa
set_option maxRecDepth 100000
set_option maxHeartbeats 2000000
set_option linter.unusedVariables false
set_option linter.unusedSimpArgs false
def ash_law13_known : List Sh := []
noncomputable def sp_law13_known : Nat → Option (List AV → Prog AV)
  | 101 => some (con_itv_Of)
  | 102 => some (con_itv_All)
  | 35 => some (con_flow_Read)
  | 110 => some (con_num_Not)
  | 136 => some (con_itv_Refine)
  | 132 => some (con_itv_Meet)
  | 92 => some (con_itv_Empty)
  | 137 => some (con_env_None)
  | 131 => some (con_slices_Clone_Itv)
  | 48 => some (con_held_Has)
  | 135 => some (con_held_Without)
  | 133 => some (con_flow_deed_gains)
  | 134 => some (con_held_With)
  | 61 => some (con_itv_Leq)
  | 55 => some (con_itv_Join)
  | 129 => some (con_itv_Do)
  | 73 => some (con_ref2_One)
  | _ => none
theorem hsp_law13_known : ∀ g p, sp_law13_known g = some p → SoundA Try.prog g p := by
  intro g p h
  unfold sp_law13_known at h
  split at h
  · cases h; exact snd_itv_Of
  · cases h; exact snd_itv_All
  · cases h; exact snd_flow_Read
  · cases h; exact snd_num_Not
  · cases h; exact snd_itv_Refine
  · cases h; exact snd_itv_Meet
  · cases h; exact snd_itv_Empty
  · cases h; exact snd_env_None
  · cases h; exact snd_slices_Clone_Itv
  · cases h; exact snd_held_Has
  · cases h; exact snd_held_Without
  · cases h; exact snd_flow_deed_gains
  · cases h; exact snd_held_With
  · cases h; exact snd_itv_Leq
  · cases h; exact snd_itv_Join
  · cases h; exact snd_itv_Do
  · cases h; exact snd_ref2_One
  · cases h
noncomputable def cx_law13_known : Ctx := { tab := tab, spec := sp_law13_known, inl := inl, lps := fun _ _ => none, fuel := 40 }
theorem in_law13_known : InlOk Try.prog cx_law13_known := ⟨inl_ok, fun _ _ _ _ _ _ _ _ h => nomatch h⟩
theorem cal_law13_known (g : Nat) : SoundA Try.prog g (evF cx_law13_known keeps 8 g) := evF_sound (tabOk_of tab_ok) (cmpsOk_of tab_ok cmps_ok) mixed in_law13_known hsp_law13_known keeps 8 g
noncomputable def g_law13_known  : Option Bool :=
  some !false
theorem raw_law13_known  : evGX cx_law13_known keeps 8 37 ash_law13_known (.dat .bool) (() : Unit) = g_law13_known  := by kernel_rfl
noncomputable def G_law13_known (x : Unit) : Option Bool := g_law13_known 
noncomputable def con_law13_known : List AV → Prog AV := conP true ash_law13_known (.dat .bool) G_law13_known
theorem snd_law13_known : SoundA Try.prog 37 con_law13_known := conP_sound (cal_law13_known 37) true (by rfl) (by rfl) (fun x r e => (evGX_eq _ _ _ _ _ _ _).trans ((raw_law13_known ).trans e)) (.inl rfl)
end Go.Proofs.Ytbdcblpjemmipaa.Ex

namespace Go.Proofs.Ytbdcblpjemmipaa.Ex
open Go.Proofs Go.Proofs.Ytbdcblpjemmipaa
set_option maxRecDepth 100000
set_option maxHeartbeats 2000000
set_option linter.unusedVariables false
set_option linter.unusedSimpArgs false
end Go.Proofs.Ytbdcblpjemmipaa.Ex

namespace Go.Proofs.Ytbdcblpjemmipaa.Ex
set_option linter.unusedSectionVars false
section
variable [RT]

theorem law_con {sh : List Sh} {G : ShDs sh → Option Bool} {args : List AV} {x : ShDs sh} (h1 : rds sh args = some x) (h2 : AV.idsL args = []) (h3 : G x = some true) :
    ∃ fb, ex ((conP true sh (.dat .bool) G args).bind (finP true)) false ⟨[], 0⟩ ⟨[], []⟩ = some (.bool true, ⟨[], 0⟩, fb) := by
  refine ⟨⟨[], []⟩, ?_⟩
  unfold ex conP
  rw [frzL_free true args _ h2, h1]
  simp only [Prog.bind, run, Option.bind_some]
  exact (congrArg (fun o => Option.bind o _) h3).trans (finP_free _ rfl _ _ _)
end
end Go.Proofs.Ytbdcblpjemmipaa.Ex

namespace Go.Proofs.Ytbdcblpjemmipaa.Ex
set_option maxRecDepth 100000
set_option linter.unusedVariables false
set_option linter.unusedSimpArgs false
theorem reach_lt : reachBytes < 9223372036854775807 := by decide
theorem size_l {e : Ty} {l : List (D e)} (h : DOkS reachBytes (.sl e) l) : List.length (α := D e) l < 9223372036854775807 := Nat.lt_of_le_of_lt h.1 reach_lt
theorem sizeU_of {u : U} (h : DOkS reachBytes tU u) : sizeU u :=
  ⟨Nat.lt_of_le_of_lt h.1.1 reach_lt, Nat.lt_of_le_of_lt h.2.1.1 reach_lt, Nat.lt_of_le_of_lt h.2.2.2.1 reach_lt, fun c hc => Nat.lt_of_le_of_lt (h.2.2.2.2 c hc).2.1 reach_lt⟩
end Go.Proofs.Ytbdcblpjemmipaa.Ex

namespace Go.Proofs.Ytbdcblpjemmipaa.Ex
open Go.Proofs Go.Proofs.Ytbdcblpjemmipaa
set_option maxRecDepth 100000
set_option maxHeartbeats 2000000
set_option linter.unusedVariables false
set_option linter.unusedSimpArgs false
abbrev ty_170_0 : Type := (((List I) × ((List I) × (Unit × (Int × Unit)))) × ((List I) × Unit))
abbrev fn_170_0 := (fun (d : ty_170_0) => ((d.1.1, d.1.2.1, d.1.2.2.2.1, d.2.1) : ((List I) × (List I) × Int × (List I))))
abbrev fn_170_1 := (fun (x : (List I)) => ((((), ()), (x, ())) : ((Unit × Unit) × ((List I) × Unit))))
def ash_ref11_joins : List Sh := [.dat (.sl tI), .dat (.sl tI)]
def kp_ref11_joins_87_0 : Nat → List Nat := fun c => bif c.beq 0 then [0, 1, 5, 6] else [5]
noncomputable def sp_ref11_joins : Nat → Option (List AV → Prog AV)
  | 121 => some (con_ref11_row)
  | 15 => some (con_ref2_Join)
  | _ => none
theorem hsp_ref11_joins : ∀ g p, sp_ref11_joins g = some p → SoundA Try.prog g p := by
  intro g p h
  unfold sp_ref11_joins at h
  split at h
  · cases h; exact snd_ref11_row
  · cases h; exact snd_ref2_Join
  · cases h
noncomputable def cx_ref11_joins0 : Ctx := { tab := tab, spec := sp_ref11_joins, inl := inl, lps := fun _ _ => none, fuel := 40 }
theorem in_ref11_joins0 : InlOk Try.prog cx_ref11_joins0 := ⟨inl_ok, fun _ _ _ _ _ _ _ _ h => nomatch h⟩
theorem cal_ref11_joins0 (g : Nat) : SoundA Try.prog g (evF cx_ref11_joins0 keeps 8 g) := evF_sound (tabOk_of tab_ok) (cmpsOk_of tab_ok cmps_ok) mixed in_ref11_joins0 hsp_ref11_joins keeps 8 g
noncomputable def F_ref11_joins_87_0 (base : Nat) : Tm → Prog (Nat × Tm) := evC cx_ref11_joins0 (evF cx_ref11_joins0 keeps 8) ⟨87, 25, keeps 87, base⟩ 0 (bodyX 87 0)
def s_ref11_joins_87_0_0 : StS := ⟨[(0, .sl tI), (1, .sl tI), (5, .row 0), (6, .int .i64)], [(0, .row tI)], 1⟩
def x_ref11_joins_87_0_0_0 : StS := ⟨[(5, .row 0)], [(0, .row tI)], 1⟩
noncomputable def st_ref11_joins_87_0_0 (s0 : (List I)) (s1 : (List I)) (s6 : Int) (b0 : (List I)) : Option (((List I) × (List I) × Int × (List I)) ⊕ (List I)) :=
  bif decide (s6 < (↑s0.length : Int)) then
 bif decide (0 ≤ s6) then
 optC s0[s6.toNat]? none fun d6 ↦
 optC (G_ref11_row (s1, s6, ())) none fun d7 ↦
 optC (G_ref2_Join (d6, d7, ())) none fun d8 ↦
 bif decide ((b0.length + [d8].length + 1) * 16 ≤ lim) then some (Sum.inl (s0, s1, Go.IntKind.i64.wrap (s6 + 1), b0 ++ [d8])) else none
 else none
 else some (Sum.inr b0)
theorem rn_ref11_joins_87_0_0 (s0 : (List I)) (s1 : (List I)) (s6 : Int) (b0 : (List I)) : rdX cx_ref11_joins0 keeps 8 ⟨87, 25, keeps 87, 0⟩ 0 (bodyX 87 0) 0 kp_ref11_joins_87_0 (sT s_ref11_joins_87_0_0 ((s0, s1, (), s6, ()), (b0, ()))) (sH s_ref11_joins_87_0_0 ((s0, s1, (), s6, ()), (b0, ()))) (rdO (fun T h => (rdS s_ref11_joins_87_0_0 T h).map fn_170_0) (getE 2 x_ref11_joins_87_0_0_0 (fun (d : ((Unit × Unit) × ((List I) × Unit))) => ((d.2.1) : (List I))))) = st_ref11_joins_87_0_0 s0 s1 s6 b0 := by kernel_rfl
noncomputable def L_ref11_joins_87_0_0 (x : ((List I) × (List I) × Int × (List I))) : Option (List I) := iterO (fun x => st_ref11_joins_87_0_0 x.1 x.2.1 x.2.2.1 x.2.2.2) FUEL x
noncomputable def q_ref11_joins_87_0 : Nat → Tm → Prog (Nat × Tm) := (varP 0 (fun T h => (rdS s_ref11_joins_87_0_0 T h).map fn_170_0) L_ref11_joins_87_0_0 (altE 2 x_ref11_joins_87_0_0_0 fn_170_1) (fun _ _ => .fail))
theorem ok_ref11_joins_87_0 : VarOk kp_ref11_joins_87_0 F_ref11_joins_87_0 q_ref11_joins_87_0 := (varX_ok (s := s_ref11_joins_87_0_0) (un := (fun (x : ((List I) × (List I) × Int × (List I))) => (((x.1, x.2.1, (), x.2.2.1, ()), (x.2.2.2, ())) : ty_170_0))) (by rfl) (fun _ => rfl) (getE_ok (s := x_ref11_joins_87_0_0_0) (un := fn_170_1) (by rfl) (fun _ => rfl)) (step := fun x => st_ref11_joins_87_0_0 x.1 x.2.1 x.2.2.1 x.2.2.2) (fun x => rn_ref11_joins_87_0_0 x.1 x.2.1 x.2.2.1 x.2.2.2) (fun _ _ e => ⟨_, e⟩) (altE_ok 2 x_ref11_joins_87_0_0_0 fn_170_1) (VarOk.fail _ _))
noncomputable def lpI_ref11_joins_87_0 (base : Nat) (T : Tm) : Prog (Nat × Tm) := .norm base (kp_ref11_joins_87_0 0) T (q_ref11_joins_87_0 base)
theorem sndI_ref11_joins_87_0 : SoundC Try.prog 25 (.loop (bodyX 87 0)) lpI_ref11_joins_87_0 := loopK_sound (cx := cx_ref11_joins0) (cal := evF cx_ref11_joins0 keeps 8) (kp := keeps 87) (tabOk_of tab_ok) (cmpsOk_of tab_ok cmps_ok) cal_ref11_joins0 mixed (hl_of (g := 87) (b := 0) in_ref11_joins0 (by kernel_rfl) (by kernel_rfl)) ok_ref11_joins_87_0
noncomputable def lpL_ref11_joins_87_0 : Nat → Tm → Prog (Nat × Tm) := (ownP [] [(5, tI)] (kp_ref11_joins_87_0 0) lpI_ref11_joins_87_0)
theorem sndL_ref11_joins_87_0 : SoundC Try.prog 25 (.loop (bodyX 87 0)) lpL_ref11_joins_87_0 := (own_sound sndI_ref11_joins_87_0)
noncomputable def lp_ref11_joins : Nat → Nat → Option (Nat → Tm → Prog (Nat × Tm))
  | 87, 0 => some lpL_ref11_joins_87_0
  | _, _ => none
noncomputable def cx_ref11_joins : Ctx := { tab := tab, spec := sp_ref11_joins, inl := inl, lps := lp_ref11_joins, fuel := 40 }
theorem in_ref11_joins : InlOk Try.prog cx_ref11_joins := ⟨inl_ok, fun g fn c hg hb q hq p hp => by
  change lp_ref11_joins g q.1 = some p at hp
  change inl g = some fn at hg
  generalize hq1 : q.1 = b at hp
  unfold lp_ref11_joins at hp
  split at hp
  · cases hp; exact lps_case (inl := inl) hg hb hq hq1 (by kernel_rfl) (by kernel_rfl) sndL_ref11_joins_87_0
  · cases hp⟩
theorem cal_ref11_joins (g : Nat) : SoundA Try.prog g (evF cx_ref11_joins keeps 8 g) := evF_sound (tabOk_of tab_ok) (cmpsOk_of tab_ok cmps_ok) mixed in_ref11_joins hsp_ref11_joins keeps 8 g
noncomputable def g_ref11_joins (a0 : (List I)) (a1 : (List I)) : Option (List I) :=
  optC (L_ref11_joins_87_0_0 (a0, a1, 0, [])) none fun d4 ↦ some d4
theorem raw_ref11_joins (a0 : (List I)) (a1 : (List I)) : evGX cx_ref11_joins keeps 8 87 ash_ref11_joins (.dat (.sl tI)) ((a0, a1, ()) : ((List I) × ((List I) × Unit))) = g_ref11_joins a0 a1 := by kernel_rfl
noncomputable def G_ref11_joins (x : ((List I) × ((List I) × Unit))) : Option (List I) := g_ref11_joins x.1 x.2.1
noncomputable def con_ref11_joins : List AV → Prog AV := conP true ash_ref11_joins (.dat (.sl tI)) G_ref11_joins
theorem snd_ref11_joins : SoundA Try.prog 87 con_ref11_joins := conP_sound (cal_ref11_joins 87) true (by rfl) (by rfl) (fun x r e => (evGX_eq _ _ _ _ _ _ _).trans ((raw_ref11_joins x.1 x.2.1).trans e)) (.inl rfl)
end Go.Proofs.Ytbdcblpjemmipaa.Ex

namespace Go.Proofs.Ytbdcblpjemmipaa.Ex
set_option maxRecDepth 100000
set_option maxHeartbeats 2000000
set_option linter.unusedVariables false
set_option linter.unusedSimpArgs false
noncomputable def bd_ref11_joins_87_0_0 (s1 : (List I)) (s0 : (List I)) (i : Nat) (b0 : (List I)) (d : I) : Option ((List I) ⊕ (List I)) :=
  optC (G_ref11_row (s1, (i : Int), ())) (none) fun d7 ↦
   optC (G_ref2_Join (d, d7, ())) (none) fun d8 ↦
   bif decide ((b0.length + [d8].length + 1) * 16 ≤ lim) then
   some (Sum.inl (b0 ++ [d8]))
 else none
noncomputable def fn_ref11_joins_87_0_0 (s1 : (List I)) (s0 : (List I)) (b0 : (List I)) : Option (List I) :=
  some b0
noncomputable abbrev rx_ref11_joins_87_0_0 (s1 : (List I)) (s0 : (List I)) (i : Nat) (s : (List I)) : ((List I) × (List I) × Int × (List I)) := (s0, s1, (i : Int), s)
noncomputable def rv_ref11_joins_87_0_0 (s1 : (List I)) (s0 : (List I)) (s : (List I)) : Option (List I) := rangeO (fun i s d => bd_ref11_joins_87_0_0 s1 s0 i s d) (fun s => fn_ref11_joins_87_0_0 s1 s0 s) 0 s0 s
theorem rg_ref11_joins_87_0_0 (s1 : (List I)) (s0 : (List I)) (s : (List I)) (hl : s0.length < 9223372036854775807) : L_ref11_joins_87_0_0 (s0, s1, 0, s) = rv_ref11_joins_87_0_0 s1 s0 s := by
  unfold L_ref11_joins_87_0_0 rv_ref11_joins_87_0_0
  refine iterO_range0 s0 (rx_ref11_joins_87_0_0 s1 s0) _ _ ?_ ?_ s (by unfold FUEL; omega)
  · intro i s d hi hd
    have e1 : decide ((i : Int) < (s0.length : Int)) = true := decide_eq_true (by omega)
    have e2 : decide (0 ≤ (i : Int)) = true := decide_eq_true (by omega)
    have e3 : Int.toNat (i : Int) = i := Int.toNat_natCast i
    have e4 := wrap_next hi (Nat.le_of_lt hl)
    show st_ref11_joins_87_0_0 (s0) (s1) ((i : Int)) (s) = upd _ (bd_ref11_joins_87_0_0 s1 s0 i s d)
    unfold st_ref11_joins_87_0_0 bd_ref11_joins_87_0_0
    simp only [e1, e2, e3, e4, hd, cond_true, cond_false, optC_some, upd_cond, upd_optC, upd_elim, upd_inl, upd_inr, upd_none]
  · intro s
    have e1 : decide ((s0.length : Int) < (s0.length : Int)) = false := decide_eq_false (by omega)
    show st_ref11_joins_87_0_0 (s0) (s1) ((s0.length : Int)) (s) = _
    unfold st_ref11_joins_87_0_0 fn_ref11_joins_87_0_0
    rw [e1]
    rfl
end Go.Proofs.Ytbdcblpjemmipaa.Ex

namespace Go.Proofs.Ytbdcblpjemmipaa.Ex
open Go.Proofs Go.Proofs.Ytbdcblpjemmipaa
set_option maxRecDepth 100000
set_option maxHeartbeats 2000000
set_option linter.unusedVariables false
set_option linter.unusedSimpArgs false
def ash_ref11_Join : List Sh := [.dat tE, .dat tE]
noncomputable def sp_ref11_Join : Nat → Option (List AV → Prog AV)
  | 87 => some (con_ref11_joins)
  | _ => none
theorem hsp_ref11_Join : ∀ g p, sp_ref11_Join g = some p → SoundA Try.prog g p := by
  intro g p h
  unfold sp_ref11_Join at h
  split at h
  · cases h; exact snd_ref11_joins
  · cases h
noncomputable def cx_ref11_Join : Ctx := { tab := tab, spec := sp_ref11_Join, inl := inl, lps := fun _ _ => none, fuel := 40 }
theorem in_ref11_Join : InlOk Try.prog cx_ref11_Join := ⟨inl_ok, fun _ _ _ _ _ _ _ _ h => nomatch h⟩
theorem cal_ref11_Join (g : Nat) : SoundA Try.prog g (evF cx_ref11_Join keeps 8 g) := evF_sound (tabOk_of tab_ok) (cmpsOk_of tab_ok cmps_ok) mixed in_ref11_Join hsp_ref11_Join keeps 8 g
noncomputable def g_ref11_Join (a0 : E) (a1 : E) : Option E :=
  bif !a1.1 then bif !a0.1 then some (false, [], [], [], 0, 0) else some (a0.1, a0.2.1, a0.2.2.1, a0.2.2.2.1, a0.2.2.2.2.1, a0.2.2.2.2.2)
 else
 bif !a0.1 then some (a1.1, a1.2.1, a1.2.2.1, a1.2.2.2.1, a1.2.2.2.2.1, a1.2.2.2.2.2)
 else
 optC (G_ref11_joins (a0.2.1, a1.2.1, ())) none fun d3 ↦
 optC (G_ref11_joins (a0.2.2.1, a1.2.2.1, ())) none fun d4 ↦
 optC (G_ref11_joins (a0.2.2.2.1, a1.2.2.2.1, ())) none fun d5 ↦
 some
 (true, d3, d4, d5, Go.IntKind.i64.wrap (↑(BitVec.ofInt Go.IntKind.i64.bits a0.2.2.2.2.1 &&& BitVec.ofInt Go.IntKind.i64.bits a1.2.2.2.2.1).toNat : Int),
 Go.IntKind.i64.wrap (↑(BitVec.ofInt Go.IntKind.i64.bits a0.2.2.2.2.2 ||| BitVec.ofInt Go.IntKind.i64.bits a1.2.2.2.2.2).toNat : Int))
theorem raw_ref11_Join (a0 : E) (a1 : E) : evGX cx_ref11_Join keeps 8 43 ash_ref11_Join (.dat tE) ((a0, a1, ()) : (E × (E × Unit))) = g_ref11_Join a0 a1 := by kernel_rfl
noncomputable def G_ref11_Join (x : (E × (E × Unit))) : Option E := g_ref11_Join x.1 x.2.1
noncomputable def con_ref11_Join : List AV → Prog AV := conP true ash_ref11_Join (.dat tE) G_ref11_Join
theorem snd_ref11_Join : SoundA Try.prog 43 con_ref11_Join := conP_sound (cal_ref11_Join 43) true (by rfl) (by rfl) (fun x r e => (evGX_eq _ _ _ _ _ _ _).trans ((raw_ref11_Join x.1 x.2.1).trans e)) (.inl rfl)
end Go.Proofs.Ytbdcblpjemmipaa.Ex

namespace Go.Proofs.Ytbdcblpjemmipaa.Ex
open Go.Proofs Go.Proofs.Ytbdcblpjemmipaa
set_option maxRecDepth 100000
set_option maxHeartbeats 2000000
set_option linter.unusedVariables false
set_option linter.unusedSimpArgs false
abbrev ty_173_0 : Type := ((Unit × (Unit × (Int × (Bool × (Int × Unit))))) × ((Bool × ((List I) × ((List I) × ((List I) × (Int × (Int × (Bool × ((List I) × ((List I) × ((List I) × (Int × (Int × ((List Int) × ((List En) × ((List Ac) × Unit))))))))))))))) × ((Bool × ((List I) × ((List I) × ((List I) × (Int × (Int × (Bool × ((List I) × ((List I) × ((List I) × (Int × (Int × ((List Int) × ((List En) × ((List Ac) × Unit))))))))))))))) × Unit)))
abbrev ty_173_1 : Type := ((Unit × (Unit × (Int × (Bool × Unit)))) × ((Bool × ((List I) × ((List I) × ((List I) × (Int × (Int × (Bool × ((List I) × ((List I) × ((List I) × (Int × (Int × ((List Int) × ((List En) × ((List Ac) × Unit))))))))))))))) × ((Bool × ((List I) × ((List I) × ((List I) × (Int × (Int × (Bool × ((List I) × ((List I) × ((List I) × (Int × (Int × ((List Int) × ((List En) × ((List Ac) × Unit))))))))))))))) × Unit)))
abbrev ty_173_2 : Type := ((Unit × (Unit × (Int × Unit))) × ((Bool × ((List I) × ((List I) × ((List I) × (Int × (Int × (Bool × ((List I) × ((List I) × ((List I) × (Int × (Int × ((List Int) × ((List En) × ((List Ac) × Unit))))))))))))))) × ((Bool × ((List I) × ((List I) × ((List I) × (Int × (Int × (Bool × ((List I) × ((List I) × ((List I) × (Int × (Int × ((List Int) × ((List En) × ((List Ac) × Unit))))))))))))))) × Unit)))
abbrev ty_173_3 : Type := (Int × Bool × Int × Bool × (List I) × (List I) × (List I) × Int × Int × Bool × (List I) × (List I) × (List I) × Int × Int × (List Int) × (List En) × (List Ac) × Bool × (List I) × (List I) × (List I) × Int × Int × Bool × (List I) × (List I) × (List I) × Int × Int × (List Int) × (List En) × (List Ac))
abbrev ty_173_4 : Type := (Int × Bool × Bool × (List I) × (List I) × (List I) × Int × Int × Bool × (List I) × (List I) × (List I) × Int × Int × (List Int) × (List En) × (List Ac) × Bool × (List I) × (List I) × (List I) × Int × Int × Bool × (List I) × (List I) × (List I) × Int × Int × (List Int) × (List En) × (List Ac))
abbrev ty_173_5 : Type := (Int × Bool × (List I) × (List I) × (List I) × Int × Int × Bool × (List I) × (List I) × (List I) × Int × Int × (List Int) × (List En) × (List Ac) × Bool × (List I) × (List I) × (List I) × Int × Int × Bool × (List I) × (List I) × (List I) × Int × Int × (List Int) × (List En) × (List Ac))
abbrev fn_173_0 := (fun (x : ty_173_4) => ((((), (), x.1, x.2.1, ()), ((x.2.2.1, x.2.2.2.1, x.2.2.2.2.1, x.2.2.2.2.2.1, x.2.2.2.2.2.2.1, x.2.2.2.2.2.2.2.1, x.2.2.2.2.2.2.2.2.1, x.2.2.2.2.2.2.2.2.2.1, x.2.2.2.2.2.2.2.2.2.2.1, x.2.2.2.2.2.2.2.2.2.2.2.1, x.2.2.2.2.2.2.2.2.2.2.2.2.1, x.2.2.2.2.2.2.2.2.2.2.2.2.2.1, x.2.2.2.2.2.2.2.2.2.2.2.2.2.2.1, x.2.2.2.2.2.2.2.2.2.2.2.2.2.2.2.1, x.2.2.2.2.2.2.2.2.2.2.2.2.2.2.2.2.1, ()), (x.2.2.2.2.2.2.2.2.2.2.2.2.2.2.2.2.2.1, x.2.2.2.2.2.2.2.2.2.2.2.2.2.2.2.2.2.2.1, x.2.2.2.2.2.2.2.2.2.2.2.2.2.2.2.2.2.2.2.1, x.2.2.2.2.2.2.2.2.2.2.2.2.2.2.2.2.2.2.2.2.1, x.2.2.2.2.2.2.2.2.2.2.2.2.2.2.2.2.2.2.2.2.2.1, x.2.2.2.2.2.2.2.2.2.2.2.2.2.2.2.2.2.2.2.2.2.2.1, x.2.2.2.2.2.2.2.2.2.2.2.2.2.2.2.2.2.2.2.2.2.2.2.1, x.2.2.2.2.2.2.2.2.2.2.2.2.2.2.2.2.2.2.2.2.2.2.2.2.1, x.2.2.2.2.2.2.2.2.2.2.2.2.2.2.2.2.2.2.2.2.2.2.2.2.2.1, x.2.2.2.2.2.2.2.2.2.2.2.2.2.2.2.2.2.2.2.2.2.2.2.2.2.2.1, x.2.2.2.2.2.2.2.2.2.2.2.2.2.2.2.2.2.2.2.2.2.2.2.2.2.2.2.1, x.2.2.2.2.2.2.2.2.2.2.2.2.2.2.2.2.2.2.2.2.2.2.2.2.2.2.2.2.1, x.2.2.2.2.2.2.2.2.2.2.2.2.2.2.2.2.2.2.2.2.2.2.2.2.2.2.2.2.2.1, x.2.2.2.2.2.2.2.2.2.2.2.2.2.2.2.2.2.2.2.2.2.2.2.2.2.2.2.2.2.2.1, x.2.2.2.2.2.2.2.2.2.2.2.2.2.2.2.2.2.2.2.2.2.2.2.2.2.2.2.2.2.2.2, ()), ())) : ty_173_1))
abbrev fn_173_1 := (fun (d : ty_173_0) => ((d.1.2.2.1, d.1.2.2.2.1, d.1.2.2.2.2.1, d.2.1.1, d.2.1.2.1, d.2.1.2.2.1, d.2.1.2.2.2.1, d.2.1.2.2.2.2.1, d.2.1.2.2.2.2.2.1, d.2.1.2.2.2.2.2.2.1, d.2.1.2.2.2.2.2.2.2.1, d.2.1.2.2.2.2.2.2.2.2.1, d.2.1.2.2.2.2.2.2.2.2.2.1, d.2.1.2.2.2.2.2.2.2.2.2.2.1, d.2.1.2.2.2.2.2.2.2.2.2.2.2.1, d.2.1.2.2.2.2.2.2.2.2.2.2.2.2.1, d.2.1.2.2.2.2.2.2.2.2.2.2.2.2.2.1, d.2.1.2.2.2.2.2.2.2.2.2.2.2.2.2.2.1, d.2.2.1.1, d.2.2.1.2.1, d.2.2.1.2.2.1, d.2.2.1.2.2.2.1, d.2.2.1.2.2.2.2.1, d.2.2.1.2.2.2.2.2.1, d.2.2.1.2.2.2.2.2.2.1, d.2.2.1.2.2.2.2.2.2.2.1, d.2.2.1.2.2.2.2.2.2.2.2.1, d.2.2.1.2.2.2.2.2.2.2.2.2.1, d.2.2.1.2.2.2.2.2.2.2.2.2.2.1, d.2.2.1.2.2.2.2.2.2.2.2.2.2.2.1, d.2.2.1.2.2.2.2.2.2.2.2.2.2.2.2.1, d.2.2.1.2.2.2.2.2.2.2.2.2.2.2.2.2.1, d.2.2.1.2.2.2.2.2.2.2.2.2.2.2.2.2.2.1) : ty_173_3))
abbrev fn_173_2 := (fun (d : ty_173_2) => ((d.1.2.2.1, d.2.1.1, d.2.1.2.1, d.2.1.2.2.1, d.2.1.2.2.2.1, d.2.1.2.2.2.2.1, d.2.1.2.2.2.2.2.1, d.2.1.2.2.2.2.2.2.1, d.2.1.2.2.2.2.2.2.2.1, d.2.1.2.2.2.2.2.2.2.2.1, d.2.1.2.2.2.2.2.2.2.2.2.1, d.2.1.2.2.2.2.2.2.2.2.2.2.1, d.2.1.2.2.2.2.2.2.2.2.2.2.2.1, d.2.1.2.2.2.2.2.2.2.2.2.2.2.2.1, d.2.1.2.2.2.2.2.2.2.2.2.2.2.2.2.1, d.2.1.2.2.2.2.2.2.2.2.2.2.2.2.2.2.1, d.2.2.1.1, d.2.2.1.2.1, d.2.2.1.2.2.1, d.2.2.1.2.2.2.1, d.2.2.1.2.2.2.2.1, d.2.2.1.2.2.2.2.2.1, d.2.2.1.2.2.2.2.2.2.1, d.2.2.1.2.2.2.2.2.2.2.1, d.2.2.1.2.2.2.2.2.2.2.2.1, d.2.2.1.2.2.2.2.2.2.2.2.2.1, d.2.2.1.2.2.2.2.2.2.2.2.2.2.1, d.2.2.1.2.2.2.2.2.2.2.2.2.2.2.1, d.2.2.1.2.2.2.2.2.2.2.2.2.2.2.2.1, d.2.2.1.2.2.2.2.2.2.2.2.2.2.2.2.2.1, d.2.2.1.2.2.2.2.2.2.2.2.2.2.2.2.2.2.1) : ty_173_5))
def ash_law13_FlowMore : List Sh := [.dat tU, .dat (.int .i64), .dat (.int .i64), .dat tE, .dat tE, .dat (.sl tEn), .dat (.sl tEn)]
def kp_law13_FlowMore_11_2 : Nat → List Nat := fun c => bif c.beq 0 then [17, 18, 19, 20, 21] else [17, 18, 19, 20]
def kp_law13_FlowMore_11_0 : Nat → List Nat := fun c => bif c.beq 0 then [17, 18, 19] else [14]
noncomputable def sp_law13_FlowMore : Nat → Option (List AV → Prog AV)
  | 31 => some (con_law13_asked)
  | 43 => some (con_ref11_Join)
  | 26 => some (con_ref12_Add)
  | 33 => some (con_flow_Do)
  | 44 => some (con_ref11_Leq)
  | 37 => some (con_law13_known)
  | _ => none
theorem hsp_law13_FlowMore : ∀ g p, sp_law13_FlowMore g = some p → SoundA Try.prog g p := by
  intro g p h
  unfold sp_law13_FlowMore at h
  split at h
  · cases h; exact snd_law13_asked
  · cases h; exact snd_ref11_Join
  · cases h; exact snd_ref12_Add
  · cases h; exact snd_flow_Do
  · cases h; exact snd_ref11_Leq
  · cases h; exact snd_law13_known
  · cases h
noncomputable def cx_law13_FlowMore0 : Ctx := { tab := tab, spec := sp_law13_FlowMore, inl := inl, lps := fun _ _ => none, fuel := 40 }
theorem in_law13_FlowMore0 : InlOk Try.prog cx_law13_FlowMore0 := ⟨inl_ok, fun _ _ _ _ _ _ _ _ h => nomatch h⟩
theorem cal_law13_FlowMore0 (g : Nat) : SoundA Try.prog g (evF cx_law13_FlowMore0 keeps 8 g) := evF_sound (tabOk_of tab_ok) (cmpsOk_of tab_ok cmps_ok) mixed in_law13_FlowMore0 hsp_law13_FlowMore keeps 8 g
noncomputable def F_law13_FlowMore_11_2 (base : Nat) : Tm → Prog (Nat × Tm) := evC cx_law13_FlowMore0 (evF cx_law13_FlowMore0 keeps 8) ⟨11, 132, keeps 11, base⟩ 2 (bodyX 11 2)
def s_law13_FlowMore_11_2_0 : StS := ⟨[(17, .ptr 0 0), (18, .ptr 1 0), (19, .int .i64), (20, .bool), (21, .int .i64)], [(0, .box [.bool, .sl tI, .sl tI, .sl tI, .int .i64, .int .i64, .bool, .sl tI, .sl tI, .sl tI, .int .i64, .int .i64, .sl (.int .i64), .sl tEn, .sl tAc]), (1, .box [.bool, .sl tI, .sl tI, .sl tI, .int .i64, .int .i64, .bool, .sl tI, .sl tI, .sl tI, .int .i64, .int .i64, .sl (.int .i64), .sl tEn, .sl tAc])], 2⟩
def x_law13_FlowMore_11_2_0_0 : StS := ⟨[(17, .ptr 0 0), (18, .ptr 1 0), (19, .int .i64), (20, .bool)], [(0, .box [.bool, .sl tI, .sl tI, .sl tI, .int .i64, .int .i64, .bool, .sl tI, .sl tI, .sl tI, .int .i64, .int .i64, .sl (.int .i64), .sl tEn, .sl tAc]), (1, .box [.bool, .sl tI, .sl tI, .sl tI, .int .i64, .int .i64, .bool, .sl tI, .sl tI, .sl tI, .int .i64, .int .i64, .sl (.int .i64), .sl tEn, .sl tAc])], 2⟩
noncomputable def st_law13_FlowMore_11_2_0 (s19 : Int) (s20 : Bool) (s21 : Int) (b0 : Bool) (b0_1 : (List I)) (b0_2 : (List I)) (b0_3 : (List I)) (b0_4 : Int) (b0_5 : Int) (b0_6 : Bool) (b0_7 : (List I)) (b0_8 : (List I)) (b0_9 : (List I)) (b0_10 : Int) (b0_11 : Int) (b0_12 : (List Int)) (b0_13 : (List En)) (b0_14 : (List Ac)) (b1 : Bool) (b1_1 : (List I)) (b1_2 : (List I)) (b1_3 : (List I)) (b1_4 : Int) (b1_5 : Int) (b1_6 : Bool) (b1_7 : (List I)) (b1_8 : (List I)) (b1_9 : (List I)) (b1_10 : Int) (b1_11 : Int) (b1_12 : (List Int)) (b1_13 : (List En)) (b1_14 : (List Ac)) : Option (ty_173_3 ⊕ ty_173_4) :=
  bif decide (s21 < (↑b1_12.length : Int)) then
 bif s20 then
 some
 (Sum.inl
 (s19, true, Go.IntKind.i64.wrap (s21 + 1), b0, b0_1, b0_2, b0_3, b0_4, b0_5, b0_6, b0_7, b0_8, b0_9, b0_10, b0_11, b0_12, b0_13, b0_14, b1, b1_1, b1_2, b1_3, b1_4, b1_5, b1_6, b1_7, b1_8,
 b1_9, b1_10, b1_11, b1_12, b1_13, b1_14))
 else
 bif decide (0 ≤ s21) then
 optC b1_12[s21.toNat]? none fun d36 ↦
 bif decide (0 ≤ s19) then
 optC b0_12[s19.toNat]? none fun d37 ↦
 some
 (Sum.inl
 (s19, d36 == d37, Go.IntKind.i64.wrap (s21 + 1), b0, b0_1, b0_2, b0_3, b0_4, b0_5, b0_6, b0_7, b0_8, b0_9, b0_10, b0_11, b0_12, b0_13, b0_14, b1, b1_1, b1_2, b1_3, b1_4, b1_5, b1_6,
 b1_7, b1_8, b1_9, b1_10, b1_11, b1_12, b1_13, b1_14))
 else none
 else none
 else
 some
 (Sum.inr
 (s19, s20, b0, b0_1, b0_2, b0_3, b0_4, b0_5, b0_6, b0_7, b0_8, b0_9, b0_10, b0_11, b0_12, b0_13, b0_14, b1, b1_1, b1_2, b1_3, b1_4, b1_5, b1_6, b1_7, b1_8, b1_9, b1_10, b1_11, b1_12, b1_13,
 b1_14))
theorem rn_law13_FlowMore_11_2_0 (s19 : Int) (s20 : Bool) (s21 : Int) (b0 : Bool) (b0_1 : (List I)) (b0_2 : (List I)) (b0_3 : (List I)) (b0_4 : Int) (b0_5 : Int) (b0_6 : Bool) (b0_7 : (List I)) (b0_8 : (List I)) (b0_9 : (List I)) (b0_10 : Int) (b0_11 : Int) (b0_12 : (List Int)) (b0_13 : (List En)) (b0_14 : (List Ac)) (b1 : Bool) (b1_1 : (List I)) (b1_2 : (List I)) (b1_3 : (List I)) (b1_4 : Int) (b1_5 : Int) (b1_6 : Bool) (b1_7 : (List I)) (b1_8 : (List I)) (b1_9 : (List I)) (b1_10 : Int) (b1_11 : Int) (b1_12 : (List Int)) (b1_13 : (List En)) (b1_14 : (List Ac)) : rdX cx_law13_FlowMore0 keeps 8 ⟨11, 132, keeps 11, 0⟩ 2 (bodyX 11 2) 0 kp_law13_FlowMore_11_2 (sT s_law13_FlowMore_11_2_0 (((), (), s19, s20, s21, ()), ((b0, b0_1, b0_2, b0_3, b0_4, b0_5, b0_6, b0_7, b0_8, b0_9, b0_10, b0_11, b0_12, b0_13, b0_14, ()), (b1, b1_1, b1_2, b1_3, b1_4, b1_5, b1_6, b1_7, b1_8, b1_9, b1_10, b1_11, b1_12, b1_13, b1_14, ()), ()))) (sH s_law13_FlowMore_11_2_0 (((), (), s19, s20, s21, ()), ((b0, b0_1, b0_2, b0_3, b0_4, b0_5, b0_6, b0_7, b0_8, b0_9, b0_10, b0_11, b0_12, b0_13, b0_14, ()), (b1, b1_1, b1_2, b1_3, b1_4, b1_5, b1_6, b1_7, b1_8, b1_9, b1_10, b1_11, b1_12, b1_13, b1_14, ()), ()))) (rdO (fun T h => (rdS s_law13_FlowMore_11_2_0 T h).map fn_173_1) (getE 4 x_law13_FlowMore_11_2_0_0 (fun (d : ty_173_1) => ((d.1.2.2.1, d.1.2.2.2.1, d.2.1.1, d.2.1.2.1, d.2.1.2.2.1, d.2.1.2.2.2.1, d.2.1.2.2.2.2.1, d.2.1.2.2.2.2.2.1, d.2.1.2.2.2.2.2.2.1, d.2.1.2.2.2.2.2.2.2.1, d.2.1.2.2.2.2.2.2.2.2.1, d.2.1.2.2.2.2.2.2.2.2.2.1, d.2.1.2.2.2.2.2.2.2.2.2.2.1, d.2.1.2.2.2.2.2.2.2.2.2.2.2.1, d.2.1.2.2.2.2.2.2.2.2.2.2.2.2.1, d.2.1.2.2.2.2.2.2.2.2.2.2.2.2.2.1, d.2.1.2.2.2.2.2.2.2.2.2.2.2.2.2.2.1, d.2.2.1.1, d.2.2.1.2.1, d.2.2.1.2.2.1, d.2.2.1.2.2.2.1, d.2.2.1.2.2.2.2.1, d.2.2.1.2.2.2.2.2.1, d.2.2.1.2.2.2.2.2.2.1, d.2.2.1.2.2.2.2.2.2.2.1, d.2.2.1.2.2.2.2.2.2.2.2.1, d.2.2.1.2.2.2.2.2.2.2.2.2.1, d.2.2.1.2.2.2.2.2.2.2.2.2.2.1, d.2.2.1.2.2.2.2.2.2.2.2.2.2.2.1, d.2.2.1.2.2.2.2.2.2.2.2.2.2.2.2.1, d.2.2.1.2.2.2.2.2.2.2.2.2.2.2.2.2.1, d.2.2.1.2.2.2.2.2.2.2.2.2.2.2.2.2.2.1) : ty_173_4)))) = st_law13_FlowMore_11_2_0 s19 s20 s21 b0 b0_1 b0_2 b0_3 b0_4 b0_5 b0_6 b0_7 b0_8 b0_9 b0_10 b0_11 b0_12 b0_13 b0_14 b1 b1_1 b1_2 b1_3 b1_4 b1_5 b1_6 b1_7 b1_8 b1_9 b1_10 b1_11 b1_12 b1_13 b1_14 := by kernel_rfl
noncomputable def L_law13_FlowMore_11_2_0 (x : ty_173_3) : Option ty_173_4 := iterO (fun x => st_law13_FlowMore_11_2_0 x.1 x.2.1 x.2.2.1 x.2.2.2.1 x.2.2.2.2.1 x.2.2.2.2.2.1 x.2.2.2.2.2.2.1 x.2.2.2.2.2.2.2.1 x.2.2.2.2.2.2.2.2.1 x.2.2.2.2.2.2.2.2.2.1 x.2.2.2.2.2.2.2.2.2.2.1 x.2.2.2.2.2.2.2.2.2.2.2.1 x.2.2.2.2.2.2.2.2.2.2.2.2.1 x.2.2.2.2.2.2.2.2.2.2.2.2.2.1 x.2.2.2.2.2.2.2.2.2.2.2.2.2.2.1 x.2.2.2.2.2.2.2.2.2.2.2.2.2.2.2.1 x.2.2.2.2.2.2.2.2.2.2.2.2.2.2.2.2.1 x.2.2.2.2.2.2.2.2.2.2.2.2.2.2.2.2.2.1 x.2.2.2.2.2.2.2.2.2.2.2.2.2.2.2.2.2.2.1 x.2.2.2.2.2.2.2.2.2.2.2.2.2.2.2.2.2.2.2.1 x.2.2.2.2.2.2.2.2.2.2.2.2.2.2.2.2.2.2.2.2.1 x.2.2.2.2.2.2.2.2.2.2.2.2.2.2.2.2.2.2.2.2.2.1 x.2.2.2.2.2.2.2.2.2.2.2.2.2.2.2.2.2.2.2.2.2.2.1 x.2.2.2.2.2.2.2.2.2.2.2.2.2.2.2.2.2.2.2.2.2.2.2.1 x.2.2.2.2.2.2.2.2.2.2.2.2.2.2.2.2.2.2.2.2.2.2.2.2.1 x.2.2.2.2.2.2.2.2.2.2.2.2.2.2.2.2.2.2.2.2.2.2.2.2.2.1 x.2.2.2.2.2.2.2.2.2.2.2.2.2.2.2.2.2.2.2.2.2.2.2.2.2.2.1 x.2.2.2.2.2.2.2.2.2.2.2.2.2.2.2.2.2.2.2.2.2.2.2.2.2.2.2.1 x.2.2.2.2.2.2.2.2.2.2.2.2.2.2.2.2.2.2.2.2.2.2.2.2.2.2.2.2.1 x.2.2.2.2.2.2.2.2.2.2.2.2.2.2.2.2.2.2.2.2.2.2.2.2.2.2.2.2.2.1 x.2.2.2.2.2.2.2.2.2.2.2.2.2.2.2.2.2.2.2.2.2.2.2.2.2.2.2.2.2.2.1 x.2.2.2.2.2.2.2.2.2.2.2.2.2.2.2.2.2.2.2.2.2.2.2.2.2.2.2.2.2.2.2.1 x.2.2.2.2.2.2.2.2.2.2.2.2.2.2.2.2.2.2.2.2.2.2.2.2.2.2.2.2.2.2.2.2) FUEL x
noncomputable def q_law13_FlowMore_11_2 : Nat → Tm → Prog (Nat × Tm) := (varP 0 (fun T h => (rdS s_law13_FlowMore_11_2_0 T h).map fn_173_1) L_law13_FlowMore_11_2_0 (altE 4 x_law13_FlowMore_11_2_0_0 fn_173_0) (fun _ _ => .fail))
theorem ok_law13_FlowMore_11_2 : VarOk kp_law13_FlowMore_11_2 F_law13_FlowMore_11_2 q_law13_FlowMore_11_2 := (varX_ok (s := s_law13_FlowMore_11_2_0) (un := (fun (x : ty_173_3) => ((((), (), x.1, x.2.1, x.2.2.1, ()), ((x.2.2.2.1, x.2.2.2.2.1, x.2.2.2.2.2.1, x.2.2.2.2.2.2.1, x.2.2.2.2.2.2.2.1, x.2.2.2.2.2.2.2.2.1, x.2.2.2.2.2.2.2.2.2.1, x.2.2.2.2.2.2.2.2.2.2.1, x.2.2.2.2.2.2.2.2.2.2.2.1, x.2.2.2.2.2.2.2.2.2.2.2.2.1, x.2.2.2.2.2.2.2.2.2.2.2.2.2.1, x.2.2.2.2.2.2.2.2.2.2.2.2.2.2.1, x.2.2.2.2.2.2.2.2.2.2.2.2.2.2.2.1, x.2.2.2.2.2.2.2.2.2.2.2.2.2.2.2.2.1, x.2.2.2.2.2.2.2.2.2.2.2.2.2.2.2.2.2.1, ()), (x.2.2.2.2.2.2.2.2.2.2.2.2.2.2.2.2.2.2.1, x.2.2.2.2.2.2.2.2.2.2.2.2.2.2.2.2.2.2.2.1, x.2.2.2.2.2.2.2.2.2.2.2.2.2.2.2.2.2.2.2.2.1, x.2.2.2.2.2.2.2.2.2.2.2.2.2.2.2.2.2.2.2.2.2.1, x.2.2.2.2.2.2.2.2.2.2.2.2.2.2.2.2.2.2.2.2.2.2.1, x.2.2.2.2.2.2.2.2.2.2.2.2.2.2.2.2.2.2.2.2.2.2.2.1, x.2.2.2.2.2.2.2.2.2.2.2.2.2.2.2.2.2.2.2.2.2.2.2.2.1, x.2.2.2.2.2.2.2.2.2.2.2.2.2.2.2.2.2.2.2.2.2.2.2.2.2.1, x.2.2.2.2.2.2.2.2.2.2.2.2.2.2.2.2.2.2.2.2.2.2.2.2.2.2.1, x.2.2.2.2.2.2.2.2.2.2.2.2.2.2.2.2.2.2.2.2.2.2.2.2.2.2.2.1, x.2.2.2.2.2.2.2.2.2.2.2.2.2.2.2.2.2.2.2.2.2.2.2.2.2.2.2.2.1, x.2.2.2.2.2.2.2.2.2.2.2.2.2.2.2.2.2.2.2.2.2.2.2.2.2.2.2.2.2.1, x.2.2.2.2.2.2.2.2.2.2.2.2.2.2.2.2.2.2.2.2.2.2.2.2.2.2.2.2.2.2.1, x.2.2.2.2.2.2.2.2.2.2.2.2.2.2.2.2.2.2.2.2.2.2.2.2.2.2.2.2.2.2.2.1, x.2.2.2.2.2.2.2.2.2.2.2.2.2.2.2.2.2.2.2.2.2.2.2.2.2.2.2.2.2.2.2.2, ()), ())) : ty_173_0))) (by rfl) (fun _ => rfl) (getE_ok (s := x_law13_FlowMore_11_2_0_0) (un := fn_173_0) (by rfl) (fun _ => rfl)) (step := fun x => st_law13_FlowMore_11_2_0 x.1 x.2.1 x.2.2.1 x.2.2.2.1 x.2.2.2.2.1 x.2.2.2.2.2.1 x.2.2.2.2.2.2.1 x.2.2.2.2.2.2.2.1 x.2.2.2.2.2.2.2.2.1 x.2.2.2.2.2.2.2.2.2.1 x.2.2.2.2.2.2.2.2.2.2.1 x.2.2.2.2.2.2.2.2.2.2.2.1 x.2.2.2.2.2.2.2.2.2.2.2.2.1 x.2.2.2.2.2.2.2.2.2.2.2.2.2.1 x.2.2.2.2.2.2.2.2.2.2.2.2.2.2.1 x.2.2.2.2.2.2.2.2.2.2.2.2.2.2.2.1 x.2.2.2.2.2.2.2.2.2.2.2.2.2.2.2.2.1 x.2.2.2.2.2.2.2.2.2.2.2.2.2.2.2.2.2.1 x.2.2.2.2.2.2.2.2.2.2.2.2.2.2.2.2.2.2.1 x.2.2.2.2.2.2.2.2.2.2.2.2.2.2.2.2.2.2.2.1 x.2.2.2.2.2.2.2.2.2.2.2.2.2.2.2.2.2.2.2.2.1 x.2.2.2.2.2.2.2.2.2.2.2.2.2.2.2.2.2.2.2.2.2.1 x.2.2.2.2.2.2.2.2.2.2.2.2.2.2.2.2.2.2.2.2.2.2.1 x.2.2.2.2.2.2.2.2.2.2.2.2.2.2.2.2.2.2.2.2.2.2.2.1 x.2.2.2.2.2.2.2.2.2.2.2.2.2.2.2.2.2.2.2.2.2.2.2.2.1 x.2.2.2.2.2.2.2.2.2.2.2.2.2.2.2.2.2.2.2.2.2.2.2.2.2.1 x.2.2.2.2.2.2.2.2.2.2.2.2.2.2.2.2.2.2.2.2.2.2.2.2.2.2.1 x.2.2.2.2.2.2.2.2.2.2.2.2.2.2.2.2.2.2.2.2.2.2.2.2.2.2.2.1 x.2.2.2.2.2.2.2.2.2.2.2.2.2.2.2.2.2.2.2.2.2.2.2.2.2.2.2.2.1 x.2.2.2.2.2.2.2.2.2.2.2.2.2.2.2.2.2.2.2.2.2.2.2.2.2.2.2.2.2.1 x.2.2.2.2.2.2.2.2.2.2.2.2.2.2.2.2.2.2.2.2.2.2.2.2.2.2.2.2.2.2.1 x.2.2.2.2.2.2.2.2.2.2.2.2.2.2.2.2.2.2.2.2.2.2.2.2.2.2.2.2.2.2.2.1 x.2.2.2.2.2.2.2.2.2.2.2.2.2.2.2.2.2.2.2.2.2.2.2.2.2.2.2.2.2.2.2.2) (fun x => rn_law13_FlowMore_11_2_0 x.1 x.2.1 x.2.2.1 x.2.2.2.1 x.2.2.2.2.1 x.2.2.2.2.2.1 x.2.2.2.2.2.2.1 x.2.2.2.2.2.2.2.1 x.2.2.2.2.2.2.2.2.1 x.2.2.2.2.2.2.2.2.2.1 x.2.2.2.2.2.2.2.2.2.2.1 x.2.2.2.2.2.2.2.2.2.2.2.1 x.2.2.2.2.2.2.2.2.2.2.2.2.1 x.2.2.2.2.2.2.2.2.2.2.2.2.2.1 x.2.2.2.2.2.2.2.2.2.2.2.2.2.2.1 x.2.2.2.2.2.2.2.2.2.2.2.2.2.2.2.1 x.2.2.2.2.2.2.2.2.2.2.2.2.2.2.2.2.1 x.2.2.2.2.2.2.2.2.2.2.2.2.2.2.2.2.2.1 x.2.2.2.2.2.2.2.2.2.2.2.2.2.2.2.2.2.2.1 x.2.2.2.2.2.2.2.2.2.2.2.2.2.2.2.2.2.2.2.1 x.2.2.2.2.2.2.2.2.2.2.2.2.2.2.2.2.2.2.2.2.1 x.2.2.2.2.2.2.2.2.2.2.2.2.2.2.2.2.2.2.2.2.2.1 x.2.2.2.2.2.2.2.2.2.2.2.2.2.2.2.2.2.2.2.2.2.2.1 x.2.2.2.2.2.2.2.2.2.2.2.2.2.2.2.2.2.2.2.2.2.2.2.1 x.2.2.2.2.2.2.2.2.2.2.2.2.2.2.2.2.2.2.2.2.2.2.2.2.1 x.2.2.2.2.2.2.2.2.2.2.2.2.2.2.2.2.2.2.2.2.2.2.2.2.2.1 x.2.2.2.2.2.2.2.2.2.2.2.2.2.2.2.2.2.2.2.2.2.2.2.2.2.2.1 x.2.2.2.2.2.2.2.2.2.2.2.2.2.2.2.2.2.2.2.2.2.2.2.2.2.2.2.1 x.2.2.2.2.2.2.2.2.2.2.2.2.2.2.2.2.2.2.2.2.2.2.2.2.2.2.2.2.1 x.2.2.2.2.2.2.2.2.2.2.2.2.2.2.2.2.2.2.2.2.2.2.2.2.2.2.2.2.2.1 x.2.2.2.2.2.2.2.2.2.2.2.2.2.2.2.2.2.2.2.2.2.2.2.2.2.2.2.2.2.2.1 x.2.2.2.2.2.2.2.2.2.2.2.2.2.2.2.2.2.2.2.2.2.2.2.2.2.2.2.2.2.2.2.1 x.2.2.2.2.2.2.2.2.2.2.2.2.2.2.2.2.2.2.2.2.2.2.2.2.2.2.2.2.2.2.2.2) (fun _ _ e => ⟨_, e⟩) (altE_ok 4 x_law13_FlowMore_11_2_0_0 fn_173_0) (VarOk.fail _ _))
noncomputable def lpI_law13_FlowMore_11_2 (base : Nat) (T : Tm) : Prog (Nat × Tm) := .norm base (kp_law13_FlowMore_11_2 0) T (q_law13_FlowMore_11_2 base)
theorem sndI_law13_FlowMore_11_2 : SoundC Try.prog 132 (.loop (bodyX 11 2)) lpI_law13_FlowMore_11_2 := loopK_sound (cx := cx_law13_FlowMore0) (cal := evF cx_law13_FlowMore0 keeps 8) (kp := keeps 11) (tabOk_of tab_ok) (cmpsOk_of tab_ok cmps_ok) cal_law13_FlowMore0 mixed (hl_of (g := 11) (b := 2) in_law13_FlowMore0 (by kernel_rfl) (by kernel_rfl)) ok_law13_FlowMore_11_2
noncomputable def lpL_law13_FlowMore_11_2 : Nat → Tm → Prog (Nat × Tm) := lpI_law13_FlowMore_11_2
theorem sndL_law13_FlowMore_11_2 : SoundC Try.prog 132 (.loop (bodyX 11 2)) lpL_law13_FlowMore_11_2 := sndI_law13_FlowMore_11_2
noncomputable def lp_law13_FlowMore1 : Nat → Nat → Option (Nat → Tm → Prog (Nat × Tm))
  | 11, 2 => some lpL_law13_FlowMore_11_2
  | _, _ => none
noncomputable def cx_law13_FlowMore1 : Ctx := { tab := tab, spec := sp_law13_FlowMore, inl := inl, lps := lp_law13_FlowMore1, fuel := 40 }
theorem in_law13_FlowMore1 : InlOk Try.prog cx_law13_FlowMore1 := ⟨inl_ok, fun g fn c hg hb q hq p hp => by
  change lp_law13_FlowMore1 g q.1 = some p at hp
  change inl g = some fn at hg
  generalize hq1 : q.1 = b at hp
  unfold lp_law13_FlowMore1 at hp
  split at hp
  · cases hp; exact lps_case (inl := inl) hg hb hq hq1 (by kernel_rfl) (by kernel_rfl) sndL_law13_FlowMore_11_2
  · cases hp⟩
theorem cal_law13_FlowMore1 (g : Nat) : SoundA Try.prog g (evF cx_law13_FlowMore1 keeps 8 g) := evF_sound (tabOk_of tab_ok) (cmpsOk_of tab_ok cmps_ok) mixed in_law13_FlowMore1 hsp_law13_FlowMore keeps 8 g
noncomputable def F_law13_FlowMore_11_0 (base : Nat) : Tm → Prog (Nat × Tm) := evC cx_law13_FlowMore1 (evF cx_law13_FlowMore1 keeps 8) ⟨11, 132, keeps 11, base⟩ 0 (bodyX 11 0)
def s_law13_FlowMore_11_0_0 : StS := ⟨[(17, .ptr 0 0), (18, .ptr 1 0), (19, .int .i64)], [(0, .box [.bool, .sl tI, .sl tI, .sl tI, .int .i64, .int .i64, .bool, .sl tI, .sl tI, .sl tI, .int .i64, .int .i64, .sl (.int .i64), .sl tEn, .sl tAc]), (1, .box [.bool, .sl tI, .sl tI, .sl tI, .int .i64, .int .i64, .bool, .sl tI, .sl tI, .sl tI, .int .i64, .int .i64, .sl (.int .i64), .sl tEn, .sl tAc])], 2⟩
def x_law13_FlowMore_11_0_0_0 : StS := ⟨[(14, .undef)], [], 0⟩
def x_law13_FlowMore_11_0_0_1 : StS := ⟨[(14, .bool)], [], 0⟩
noncomputable def st_law13_FlowMore_11_0_0 (s19 : Int) (b0 : Bool) (b0_1 : (List I)) (b0_2 : (List I)) (b0_3 : (List I)) (b0_4 : Int) (b0_5 : Int) (b0_6 : Bool) (b0_7 : (List I)) (b0_8 : (List I)) (b0_9 : (List I)) (b0_10 : Int) (b0_11 : Int) (b0_12 : (List Int)) (b0_13 : (List En)) (b0_14 : (List Ac)) (b1 : Bool) (b1_1 : (List I)) (b1_2 : (List I)) (b1_3 : (List I)) (b1_4 : Int) (b1_5 : Int) (b1_6 : Bool) (b1_7 : (List I)) (b1_8 : (List I)) (b1_9 : (List I)) (b1_10 : Int) (b1_11 : Int) (b1_12 : (List Int)) (b1_13 : (List En)) (b1_14 : (List Ac)) : Option (ty_173_5 ⊕ (Unit ⊕ Bool)) :=
  bif decide (s19 < (↑b0_12.length : Int)) then
 optC
 (L_law13_FlowMore_11_2_0
 (s19, false, 0, b0, b0_1, b0_2, b0_3, b0_4, b0_5, b0_6, b0_7, b0_8, b0_9, b0_10, b0_11, b0_12, b0_13, b0_14, b1, b1_1, b1_2, b1_3, b1_4, b1_5, b1_6, b1_7, b1_8, b1_9, b1_10, b1_11, b1_12,
 b1_13, b1_14))
 none fun d34 ↦
 bif !d34.2.1 then some (Sum.inr (Sum.inr false))
 else
 some
 (Sum.inl
 (Go.IntKind.i64.wrap (d34.1 + 1), d34.2.2.1, d34.2.2.2.1, d34.2.2.2.2.1, d34.2.2.2.2.2.1, d34.2.2.2.2.2.2.1,
 d34.2.2.2.2.2.2.2.1, d34.2.2.2.2.2.2.2.2.1, d34.2.2.2.2.2.2.2.2.2.1, d34.2.2.2.2.2.2.2.2.2.2.1,
 d34.2.2.2.2.2.2.2.2.2.2.2.1, d34.2.2.2.2.2.2.2.2.2.2.2.2.1, d34.2.2.2.2.2.2.2.2.2.2.2.2.2.1,
 d34.2.2.2.2.2.2.2.2.2.2.2.2.2.2.1, d34.2.2.2.2.2.2.2.2.2.2.2.2.2.2.2.1,
 d34.2.2.2.2.2.2.2.2.2.2.2.2.2.2.2.2.1, d34.2.2.2.2.2.2.2.2.2.2.2.2.2.2.2.2.2.1,
 d34.2.2.2.2.2.2.2.2.2.2.2.2.2.2.2.2.2.2.1, d34.2.2.2.2.2.2.2.2.2.2.2.2.2.2.2.2.2.2.2.1,
 d34.2.2.2.2.2.2.2.2.2.2.2.2.2.2.2.2.2.2.2.2.1, d34.2.2.2.2.2.2.2.2.2.2.2.2.2.2.2.2.2.2.2.2.2.1,
 d34.2.2.2.2.2.2.2.2.2.2.2.2.2.2.2.2.2.2.2.2.2.2.1,
 d34.2.2.2.2.2.2.2.2.2.2.2.2.2.2.2.2.2.2.2.2.2.2.2.1,
 d34.2.2.2.2.2.2.2.2.2.2.2.2.2.2.2.2.2.2.2.2.2.2.2.2.1,
 d34.2.2.2.2.2.2.2.2.2.2.2.2.2.2.2.2.2.2.2.2.2.2.2.2.2.1,
 d34.2.2.2.2.2.2.2.2.2.2.2.2.2.2.2.2.2.2.2.2.2.2.2.2.2.2.1,
 d34.2.2.2.2.2.2.2.2.2.2.2.2.2.2.2.2.2.2.2.2.2.2.2.2.2.2.2.1,
 d34.2.2.2.2.2.2.2.2.2.2.2.2.2.2.2.2.2.2.2.2.2.2.2.2.2.2.2.2.1,
 d34.2.2.2.2.2.2.2.2.2.2.2.2.2.2.2.2.2.2.2.2.2.2.2.2.2.2.2.2.2.1,
 d34.2.2.2.2.2.2.2.2.2.2.2.2.2.2.2.2.2.2.2.2.2.2.2.2.2.2.2.2.2.2.1,
 d34.2.2.2.2.2.2.2.2.2.2.2.2.2.2.2.2.2.2.2.2.2.2.2.2.2.2.2.2.2.2.2))
 else some (Sum.inr (Sum.inl PUnit.unit))
theorem rn_law13_FlowMore_11_0_0 (s19 : Int) (b0 : Bool) (b0_1 : (List I)) (b0_2 : (List I)) (b0_3 : (List I)) (b0_4 : Int) (b0_5 : Int) (b0_6 : Bool) (b0_7 : (List I)) (b0_8 : (List I)) (b0_9 : (List I)) (b0_10 : Int) (b0_11 : Int) (b0_12 : (List Int)) (b0_13 : (List En)) (b0_14 : (List Ac)) (b1 : Bool) (b1_1 : (List I)) (b1_2 : (List I)) (b1_3 : (List I)) (b1_4 : Int) (b1_5 : Int) (b1_6 : Bool) (b1_7 : (List I)) (b1_8 : (List I)) (b1_9 : (List I)) (b1_10 : Int) (b1_11 : Int) (b1_12 : (List Int)) (b1_13 : (List En)) (b1_14 : (List Ac)) : rdX cx_law13_FlowMore1 keeps 8 ⟨11, 132, keeps 11, 0⟩ 0 (bodyX 11 0) 0 kp_law13_FlowMore_11_0 (sT s_law13_FlowMore_11_0_0 (((), (), s19, ()), ((b0, b0_1, b0_2, b0_3, b0_4, b0_5, b0_6, b0_7, b0_8, b0_9, b0_10, b0_11, b0_12, b0_13, b0_14, ()), (b1, b1_1, b1_2, b1_3, b1_4, b1_5, b1_6, b1_7, b1_8, b1_9, b1_10, b1_11, b1_12, b1_13, b1_14, ()), ()))) (sH s_law13_FlowMore_11_0_0 (((), (), s19, ()), ((b0, b0_1, b0_2, b0_3, b0_4, b0_5, b0_6, b0_7, b0_8, b0_9, b0_10, b0_11, b0_12, b0_13, b0_14, ()), (b1, b1_1, b1_2, b1_3, b1_4, b1_5, b1_6, b1_7, b1_8, b1_9, b1_10, b1_11, b1_12, b1_13, b1_14, ()), ()))) (rdO (fun T h => (rdS s_law13_FlowMore_11_0_0 T h).map fn_173_2) (getOr (getE 2 x_law13_FlowMore_11_0_0_0 (fun (d : ((Unit × Unit) × Unit)) => (() : Unit))) (getE 1 x_law13_FlowMore_11_0_0_1 (fun (d : ((Bool × Unit) × Unit)) => ((d.1.1) : Bool))))) = st_law13_FlowMore_11_0_0 s19 b0 b0_1 b0_2 b0_3 b0_4 b0_5 b0_6 b0_7 b0_8 b0_9 b0_10 b0_11 b0_12 b0_13 b0_14 b1 b1_1 b1_2 b1_3 b1_4 b1_5 b1_6 b1_7 b1_8 b1_9 b1_10 b1_11 b1_12 b1_13 b1_14 := by kernel_rfl
noncomputable def L_law13_FlowMore_11_0_0 (x : ty_173_5) : Option (Unit ⊕ Bool) := iterO (fun x => st_law13_FlowMore_11_0_0 x.1 x.2.1 x.2.2.1 x.2.2.2.1 x.2.2.2.2.1 x.2.2.2.2.2.1 x.2.2.2.2.2.2.1 x.2.2.2.2.2.2.2.1 x.2.2.2.2.2.2.2.2.1 x.2.2.2.2.2.2.2.2.2.1 x.2.2.2.2.2.2.2.2.2.2.1 x.2.2.2.2.2.2.2.2.2.2.2.1 x.2.2.2.2.2.2.2.2.2.2.2.2.1 x.2.2.2.2.2.2.2.2.2.2.2.2.2.1 x.2.2.2.2.2.2.2.2.2.2.2.2.2.2.1 x.2.2.2.2.2.2.2.2.2.2.2.2.2.2.2.1 x.2.2.2.2.2.2.2.2.2.2.2.2.2.2.2.2.1 x.2.2.2.2.2.2.2.2.2.2.2.2.2.2.2.2.2.1 x.2.2.2.2.2.2.2.2.2.2.2.2.2.2.2.2.2.2.1 x.2.2.2.2.2.2.2.2.2.2.2.2.2.2.2.2.2.2.2.1 x.2.2.2.2.2.2.2.2.2.2.2.2.2.2.2.2.2.2.2.2.1 x.2.2.2.2.2.2.2.2.2.2.2.2.2.2.2.2.2.2.2.2.2.1 x.2.2.2.2.2.2.2.2.2.2.2.2.2.2.2.2.2.2.2.2.2.2.1 x.2.2.2.2.2.2.2.2.2.2.2.2.2.2.2.2.2.2.2.2.2.2.2.1 x.2.2.2.2.2.2.2.2.2.2.2.2.2.2.2.2.2.2.2.2.2.2.2.2.1 x.2.2.2.2.2.2.2.2.2.2.2.2.2.2.2.2.2.2.2.2.2.2.2.2.2.1 x.2.2.2.2.2.2.2.2.2.2.2.2.2.2.2.2.2.2.2.2.2.2.2.2.2.2.1 x.2.2.2.2.2.2.2.2.2.2.2.2.2.2.2.2.2.2.2.2.2.2.2.2.2.2.2.1 x.2.2.2.2.2.2.2.2.2.2.2.2.2.2.2.2.2.2.2.2.2.2.2.2.2.2.2.2.1 x.2.2.2.2.2.2.2.2.2.2.2.2.2.2.2.2.2.2.2.2.2.2.2.2.2.2.2.2.2.1 x.2.2.2.2.2.2.2.2.2.2.2.2.2.2.2.2.2.2.2.2.2.2.2.2.2.2.2.2.2.2) FUEL x
noncomputable def q_law13_FlowMore_11_0 : Nat → Tm → Prog (Nat × Tm) := (varP 0 (fun T h => (rdS s_law13_FlowMore_11_0_0 T h).map fn_173_2) L_law13_FlowMore_11_0_0 (fun y => .alt y (altE 2 x_law13_FlowMore_11_0_0_0 (fun (x : Unit) => ((((), ()), ()) : ((Unit × Unit) × Unit)))) (altE 1 x_law13_FlowMore_11_0_0_1 (fun (x : Bool) => (((x, ()), ()) : ((Bool × Unit) × Unit))))) (fun _ _ => .fail))
theorem ok_law13_FlowMore_11_0 : VarOk kp_law13_FlowMore_11_0 F_law13_FlowMore_11_0 q_law13_FlowMore_11_0 := (varX_ok (s := s_law13_FlowMore_11_0_0) (un := (fun (x : ty_173_5) => ((((), (), x.1, ()), ((x.2.1, x.2.2.1, x.2.2.2.1, x.2.2.2.2.1, x.2.2.2.2.2.1, x.2.2.2.2.2.2.1, x.2.2.2.2.2.2.2.1, x.2.2.2.2.2.2.2.2.1, x.2.2.2.2.2.2.2.2.2.1, x.2.2.2.2.2.2.2.2.2.2.1, x.2.2.2.2.2.2.2.2.2.2.2.1, x.2.2.2.2.2.2.2.2.2.2.2.2.1, x.2.2.2.2.2.2.2.2.2.2.2.2.2.1, x.2.2.2.2.2.2.2.2.2.2.2.2.2.2.1, x.2.2.2.2.2.2.2.2.2.2.2.2.2.2.2.1, ()), (x.2.2.2.2.2.2.2.2.2.2.2.2.2.2.2.2.1, x.2.2.2.2.2.2.2.2.2.2.2.2.2.2.2.2.2.1, x.2.2.2.2.2.2.2.2.2.2.2.2.2.2.2.2.2.2.1, x.2.2.2.2.2.2.2.2.2.2.2.2.2.2.2.2.2.2.2.1, x.2.2.2.2.2.2.2.2.2.2.2.2.2.2.2.2.2.2.2.2.1, x.2.2.2.2.2.2.2.2.2.2.2.2.2.2.2.2.2.2.2.2.2.1, x.2.2.2.2.2.2.2.2.2.2.2.2.2.2.2.2.2.2.2.2.2.2.1, x.2.2.2.2.2.2.2.2.2.2.2.2.2.2.2.2.2.2.2.2.2.2.2.1, x.2.2.2.2.2.2.2.2.2.2.2.2.2.2.2.2.2.2.2.2.2.2.2.2.1, x.2.2.2.2.2.2.2.2.2.2.2.2.2.2.2.2.2.2.2.2.2.2.2.2.2.1, x.2.2.2.2.2.2.2.2.2.2.2.2.2.2.2.2.2.2.2.2.2.2.2.2.2.2.1, x.2.2.2.2.2.2.2.2.2.2.2.2.2.2.2.2.2.2.2.2.2.2.2.2.2.2.2.1, x.2.2.2.2.2.2.2.2.2.2.2.2.2.2.2.2.2.2.2.2.2.2.2.2.2.2.2.2.1, x.2.2.2.2.2.2.2.2.2.2.2.2.2.2.2.2.2.2.2.2.2.2.2.2.2.2.2.2.2.1, x.2.2.2.2.2.2.2.2.2.2.2.2.2.2.2.2.2.2.2.2.2.2.2.2.2.2.2.2.2.2, ()), ())) : ty_173_2))) (by rfl) (fun _ => rfl) (getOr_ok (getE_ok (s := x_law13_FlowMore_11_0_0_0) (un := (fun (x : Unit) => ((((), ()), ()) : ((Unit × Unit) × Unit)))) (by rfl) (fun _ => rfl)) (getE_ok (s := x_law13_FlowMore_11_0_0_1) (un := (fun (x : Bool) => (((x, ()), ()) : ((Bool × Unit) × Unit)))) (by rfl) (fun _ => rfl))) (step := fun x => st_law13_FlowMore_11_0_0 x.1 x.2.1 x.2.2.1 x.2.2.2.1 x.2.2.2.2.1 x.2.2.2.2.2.1 x.2.2.2.2.2.2.1 x.2.2.2.2.2.2.2.1 x.2.2.2.2.2.2.2.2.1 x.2.2.2.2.2.2.2.2.2.1 x.2.2.2.2.2.2.2.2.2.2.1 x.2.2.2.2.2.2.2.2.2.2.2.1 x.2.2.2.2.2.2.2.2.2.2.2.2.1 x.2.2.2.2.2.2.2.2.2.2.2.2.2.1 x.2.2.2.2.2.2.2.2.2.2.2.2.2.2.1 x.2.2.2.2.2.2.2.2.2.2.2.2.2.2.2.1 x.2.2.2.2.2.2.2.2.2.2.2.2.2.2.2.2.1 x.2.2.2.2.2.2.2.2.2.2.2.2.2.2.2.2.2.1 x.2.2.2.2.2.2.2.2.2.2.2.2.2.2.2.2.2.2.1 x.2.2.2.2.2.2.2.2.2.2.2.2.2.2.2.2.2.2.2.1 x.2.2.2.2.2.2.2.2.2.2.2.2.2.2.2.2.2.2.2.2.1 x.2.2.2.2.2.2.2.2.2.2.2.2.2.2.2.2.2.2.2.2.2.1 x.2.2.2.2.2.2.2.2.2.2.2.2.2.2.2.2.2.2.2.2.2.2.1 x.2.2.2.2.2.2.2.2.2.2.2.2.2.2.2.2.2.2.2.2.2.2.2.1 x.2.2.2.2.2.2.2.2.2.2.2.2.2.2.2.2.2.2.2.2.2.2.2.2.1 x.2.2.2.2.2.2.2.2.2.2.2.2.2.2.2.2.2.2.2.2.2.2.2.2.2.1 x.2.2.2.2.2.2.2.2.2.2.2.2.2.2.2.2.2.2.2.2.2.2.2.2.2.2.1 x.2.2.2.2.2.2.2.2.2.2.2.2.2.2.2.2.2.2.2.2.2.2.2.2.2.2.2.1 x.2.2.2.2.2.2.2.2.2.2.2.2.2.2.2.2.2.2.2.2.2.2.2.2.2.2.2.2.1 x.2.2.2.2.2.2.2.2.2.2.2.2.2.2.2.2.2.2.2.2.2.2.2.2.2.2.2.2.2.1 x.2.2.2.2.2.2.2.2.2.2.2.2.2.2.2.2.2.2.2.2.2.2.2.2.2.2.2.2.2.2) (fun x => rn_law13_FlowMore_11_0_0 x.1 x.2.1 x.2.2.1 x.2.2.2.1 x.2.2.2.2.1 x.2.2.2.2.2.1 x.2.2.2.2.2.2.1 x.2.2.2.2.2.2.2.1 x.2.2.2.2.2.2.2.2.1 x.2.2.2.2.2.2.2.2.2.1 x.2.2.2.2.2.2.2.2.2.2.1 x.2.2.2.2.2.2.2.2.2.2.2.1 x.2.2.2.2.2.2.2.2.2.2.2.2.1 x.2.2.2.2.2.2.2.2.2.2.2.2.2.1 x.2.2.2.2.2.2.2.2.2.2.2.2.2.2.1 x.2.2.2.2.2.2.2.2.2.2.2.2.2.2.2.1 x.2.2.2.2.2.2.2.2.2.2.2.2.2.2.2.2.1 x.2.2.2.2.2.2.2.2.2.2.2.2.2.2.2.2.2.1 x.2.2.2.2.2.2.2.2.2.2.2.2.2.2.2.2.2.2.1 x.2.2.2.2.2.2.2.2.2.2.2.2.2.2.2.2.2.2.2.1 x.2.2.2.2.2.2.2.2.2.2.2.2.2.2.2.2.2.2.2.2.1 x.2.2.2.2.2.2.2.2.2.2.2.2.2.2.2.2.2.2.2.2.2.1 x.2.2.2.2.2.2.2.2.2.2.2.2.2.2.2.2.2.2.2.2.2.2.1 x.2.2.2.2.2.2.2.2.2.2.2.2.2.2.2.2.2.2.2.2.2.2.2.1 x.2.2.2.2.2.2.2.2.2.2.2.2.2.2.2.2.2.2.2.2.2.2.2.2.1 x.2.2.2.2.2.2.2.2.2.2.2.2.2.2.2.2.2.2.2.2.2.2.2.2.2.1 x.2.2.2.2.2.2.2.2.2.2.2.2.2.2.2.2.2.2.2.2.2.2.2.2.2.2.1 x.2.2.2.2.2.2.2.2.2.2.2.2.2.2.2.2.2.2.2.2.2.2.2.2.2.2.2.1 x.2.2.2.2.2.2.2.2.2.2.2.2.2.2.2.2.2.2.2.2.2.2.2.2.2.2.2.2.1 x.2.2.2.2.2.2.2.2.2.2.2.2.2.2.2.2.2.2.2.2.2.2.2.2.2.2.2.2.2.1 x.2.2.2.2.2.2.2.2.2.2.2.2.2.2.2.2.2.2.2.2.2.2.2.2.2.2.2.2.2.2) (fun _ _ e => ⟨_, e⟩) (altOr_ok (altE_ok 2 x_law13_FlowMore_11_0_0_0 (fun (x : Unit) => ((((), ()), ()) : ((Unit × Unit) × Unit)))) (altE_ok 1 x_law13_FlowMore_11_0_0_1 (fun (x : Bool) => (((x, ()), ()) : ((Bool × Unit) × Unit))))) (VarOk.fail _ _))
noncomputable def lpI_law13_FlowMore_11_0 (base : Nat) (T : Tm) : Prog (Nat × Tm) := .norm base (kp_law13_FlowMore_11_0 0) T (q_law13_FlowMore_11_0 base)
theorem sndI_law13_FlowMore_11_0 : SoundC Try.prog 132 (.loop (bodyX 11 0)) lpI_law13_FlowMore_11_0 := loopK_sound (cx := cx_law13_FlowMore1) (cal := evF cx_law13_FlowMore1 keeps 8) (kp := keeps 11) (tabOk_of tab_ok) (cmpsOk_of tab_ok cmps_ok) cal_law13_FlowMore1 mixed (hl_of (g := 11) (b := 0) in_law13_FlowMore1 (by kernel_rfl) (by kernel_rfl)) ok_law13_FlowMore_11_0
noncomputable def lpL_law13_FlowMore_11_0 : Nat → Tm → Prog (Nat × Tm) := lpI_law13_FlowMore_11_0
theorem sndL_law13_FlowMore_11_0 : SoundC Try.prog 132 (.loop (bodyX 11 0)) lpL_law13_FlowMore_11_0 := sndI_law13_FlowMore_11_0
noncomputable def lp_law13_FlowMore : Nat → Nat → Option (Nat → Tm → Prog (Nat × Tm))
  | 11, 2 => some lpL_law13_FlowMore_11_2
  | 11, 0 => some lpL_law13_FlowMore_11_0
  | _, _ => none
noncomputable def cx_law13_FlowMore : Ctx := { tab := tab, spec := sp_law13_FlowMore, inl := inl, lps := lp_law13_FlowMore, fuel := 40 }
theorem in_law13_FlowMore : InlOk Try.prog cx_law13_FlowMore := ⟨inl_ok, fun g fn c hg hb q hq p hp => by
  change lp_law13_FlowMore g q.1 = some p at hp
  change inl g = some fn at hg
  generalize hq1 : q.1 = b at hp
  unfold lp_law13_FlowMore at hp
  split at hp
  · cases hp; exact lps_case (inl := inl) hg hb hq hq1 (by kernel_rfl) (by kernel_rfl) sndL_law13_FlowMore_11_2
  · cases hp; exact lps_case (inl := inl) hg hb hq hq1 (by kernel_rfl) (by kernel_rfl) sndL_law13_FlowMore_11_0
  · cases hp⟩
theorem cal_law13_FlowMore (g : Nat) : SoundA Try.prog g (evF cx_law13_FlowMore keeps 8 g) := evF_sound (tabOk_of tab_ok) (cmpsOk_of tab_ok cmps_ok) mixed in_law13_FlowMore hsp_law13_FlowMore keeps 8 g
noncomputable def g_law13_FlowMore (a0 : U) (a1 : Int) (a2 : Int) (a3 : E) (a4 : E) (a5 : (List En)) (a6 : (List En)) : Option Bool :=
  optC (G_law13_asked (a0, a1, a3, a5, ())) none fun d10 ↦
 bif !d10 then some true
 else
 optC (G_law13_asked (a0, a1, a4, a6, ())) none fun d11 ↦
 bif !d11 then some true
 else
 bif decide (a2 < 0) then some true
 else
 bif decide (0 ≤ a1) then
 optC a0.2.2.2[a1.toNat]? none fun d12 ↦
 bif decide (a2 ≥ (↑(List.length d12.2) : Int)) then some true
 else
 optC (G_ref11_Join (a3, a4, ())) none fun d13 ↦
 optC (G_ref12_Add (a5, a6, ())) none fun d14 ↦
 optC (G_flow_Do (a0, a1, a2, a3, a5, ())) none fun d15 ↦
 optC (G_flow_Do (a0, a1, a2, d13, d14, ())) none fun d16 ↦
 optC (G_ref11_Leq (d15.1, d16.1, ())) none fun d17 ↦
 bif !d17 then some false
 else
 optC (G_ref11_Leq (d15.2.1, d16.2.1, ())) none fun d18 ↦
 bif !d18 then some false
 else
 bif decide ((↑(List.length d15.2.2.2.2) : Int) > (↑(List.length d16.2.2.2.2) : Int)) then some false
 else
 bif decide ((↑(List.length d15.2.2.2.1) : Int) > (↑(List.length d16.2.2.2.1) : Int)) then some false
 else
 optC
 (L_law13_FlowMore_11_0_0
 (0, d15.1.1, d15.1.2.1, d15.1.2.2.1, d15.1.2.2.2.1, d15.1.2.2.2.2.1, d15.1.2.2.2.2.2, d15.2.1.1,
 d15.2.1.2.1, d15.2.1.2.2.1, d15.2.1.2.2.2.1, d15.2.1.2.2.2.2.1, d15.2.1.2.2.2.2.2, d15.2.2.1,
 d15.2.2.2.1, d15.2.2.2.2, d16.1.1, d16.1.2.1, d16.1.2.2.1, d16.1.2.2.2.1, d16.1.2.2.2.2.1,
 d16.1.2.2.2.2.2, d16.2.1.1, d16.2.1.2.1, d16.2.1.2.2.1, d16.2.1.2.2.2.1, d16.2.1.2.2.2.2.1,
 d16.2.1.2.2.2.2.2, d16.2.2))
 none fun d19 ↦ Sum.elim (fun e20 ↦ some !false) (fun e20 ↦ some e20) d19
 else none
theorem raw_law13_FlowMore (a0 : U) (a1 : Int) (a2 : Int) (a3 : E) (a4 : E) (a5 : (List En)) (a6 : (List En)) : evGX cx_law13_FlowMore keeps 8 11 ash_law13_FlowMore (.dat .bool) ((a0, a1, a2, a3, a4, a5, a6, ()) : (U × (Int × (Int × (E × (E × ((List En) × ((List En) × Unit)))))))) = g_law13_FlowMore a0 a1 a2 a3 a4 a5 a6 := by kernel_rfl
noncomputable def G_law13_FlowMore (x : (U × (Int × (Int × (E × (E × ((List En) × ((List En) × Unit)))))))) : Option Bool := g_law13_FlowMore x.1 x.2.1 x.2.2.1 x.2.2.2.1 x.2.2.2.2.1 x.2.2.2.2.2.1 x.2.2.2.2.2.2.1
noncomputable def con_law13_FlowMore : List AV → Prog AV := conP true ash_law13_FlowMore (.dat .bool) G_law13_FlowMore
theorem snd_law13_FlowMore : SoundA Try.prog 11 con_law13_FlowMore := conP_sound (cal_law13_FlowMore 11) true (by rfl) (by rfl) (fun x r e => (evGX_eq _ _ _ _ _ _ _).trans ((raw_law13_FlowMore x.1 x.2.1 x.2.2.1 x.2.2.2.1 x.2.2.2.2.1 x.2.2.2.2.2.1 x.2.2.2.2.2.2.1).trans e)) (.inl rfl)
end Go.Proofs.Ytbdcblpjemmipaa.Ex

namespace Go.Proofs.Ytbdcblpjemmipaa.Ex
set_option maxRecDepth 100000
set_option maxHeartbeats 2000000
set_option linter.unusedVariables false
set_option linter.unusedSimpArgs false
abbrev ty_174_0 : Type := (Int × Bool × Bool × (List I) × (List I) × (List I) × Int × Int × Bool × (List I) × (List I) × (List I) × Int × Int × (List Int) × (List En) × (List Ac) × Bool × (List I) × (List I) × (List I) × Int × Int × Bool × (List I) × (List I) × (List I) × Int × Int × (List Int) × (List En) × (List Ac))
noncomputable def bd_law13_FlowMore_11_2_0 (s19 : Int) (b0 : Bool) (b0_1 : (List I)) (b0_2 : (List I)) (b0_3 : (List I)) (b0_4 : Int) (b0_5 : Int) (b0_6 : Bool) (b0_7 : (List I)) (b0_8 : (List I)) (b0_9 : (List I)) (b0_10 : Int) (b0_11 : Int) (b0_12 : (List Int)) (b0_13 : (List En)) (b0_14 : (List Ac)) (b1 : Bool) (b1_1 : (List I)) (b1_2 : (List I)) (b1_3 : (List I)) (b1_4 : Int) (b1_5 : Int) (b1_6 : Bool) (b1_7 : (List I)) (b1_8 : (List I)) (b1_9 : (List I)) (b1_10 : Int) (b1_11 : Int) (b1_13 : (List En)) (b1_14 : (List Ac)) (b1_12 : (List Int)) (i : Nat) (s20 : Bool) (d : Int) : Option (Bool ⊕ ty_174_0) :=
  bif s20 then
   some (Sum.inl (true))
 else bif decide (0 ≤ s19) then
   optC b0_12[s19.toNat]? (none) fun d37 ↦
   some (Sum.inl (d == d37))
 else none
noncomputable def fn_law13_FlowMore_11_2_0 (s19 : Int) (b0 : Bool) (b0_1 : (List I)) (b0_2 : (List I)) (b0_3 : (List I)) (b0_4 : Int) (b0_5 : Int) (b0_6 : Bool) (b0_7 : (List I)) (b0_8 : (List I)) (b0_9 : (List I)) (b0_10 : Int) (b0_11 : Int) (b0_12 : (List Int)) (b0_13 : (List En)) (b0_14 : (List Ac)) (b1 : Bool) (b1_1 : (List I)) (b1_2 : (List I)) (b1_3 : (List I)) (b1_4 : Int) (b1_5 : Int) (b1_6 : Bool) (b1_7 : (List I)) (b1_8 : (List I)) (b1_9 : (List I)) (b1_10 : Int) (b1_11 : Int) (b1_13 : (List En)) (b1_14 : (List Ac)) (b1_12 : (List Int)) (s20 : Bool) : Option ty_174_0 :=
  some (s19, s20, b0, b0_1, b0_2, b0_3, b0_4, b0_5, b0_6, b0_7, b0_8, b0_9, b0_10, b0_11, b0_12, b0_13, b0_14, b1, b1_1, b1_2, b1_3, b1_4, b1_5, b1_6, b1_7, b1_8, b1_9, b1_10, b1_11, b1_12, b1_13, b1_14)
noncomputable abbrev rx_law13_FlowMore_11_2_0 (s19 : Int) (b0 : Bool) (b0_1 : (List I)) (b0_2 : (List I)) (b0_3 : (List I)) (b0_4 : Int) (b0_5 : Int) (b0_6 : Bool) (b0_7 : (List I)) (b0_8 : (List I)) (b0_9 : (List I)) (b0_10 : Int) (b0_11 : Int) (b0_12 : (List Int)) (b0_13 : (List En)) (b0_14 : (List Ac)) (b1 : Bool) (b1_1 : (List I)) (b1_2 : (List I)) (b1_3 : (List I)) (b1_4 : Int) (b1_5 : Int) (b1_6 : Bool) (b1_7 : (List I)) (b1_8 : (List I)) (b1_9 : (List I)) (b1_10 : Int) (b1_11 : Int) (b1_13 : (List En)) (b1_14 : (List Ac)) (b1_12 : (List Int)) (i : Nat) (s : Bool) : (Int × Bool × Int × Bool × (List I) × (List I) × (List I) × Int × Int × Bool × (List I) × (List I) × (List I) × Int × Int × (List Int) × (List En) × (List Ac) × Bool × (List I) × (List I) × (List I) × Int × Int × Bool × (List I) × (List I) × (List I) × Int × Int × (List Int) × (List En) × (List Ac)) := (s19, s, (i : Int), b0, b0_1, b0_2, b0_3, b0_4, b0_5, b0_6, b0_7, b0_8, b0_9, b0_10, b0_11, b0_12, b0_13, b0_14, b1, b1_1, b1_2, b1_3, b1_4, b1_5, b1_6, b1_7, b1_8, b1_9, b1_10, b1_11, b1_12, b1_13, b1_14)
noncomputable def rv_law13_FlowMore_11_2_0 (s19 : Int) (b0 : Bool) (b0_1 : (List I)) (b0_2 : (List I)) (b0_3 : (List I)) (b0_4 : Int) (b0_5 : Int) (b0_6 : Bool) (b0_7 : (List I)) (b0_8 : (List I)) (b0_9 : (List I)) (b0_10 : Int) (b0_11 : Int) (b0_12 : (List Int)) (b0_13 : (List En)) (b0_14 : (List Ac)) (b1 : Bool) (b1_1 : (List I)) (b1_2 : (List I)) (b1_3 : (List I)) (b1_4 : Int) (b1_5 : Int) (b1_6 : Bool) (b1_7 : (List I)) (b1_8 : (List I)) (b1_9 : (List I)) (b1_10 : Int) (b1_11 : Int) (b1_13 : (List En)) (b1_14 : (List Ac)) (b1_12 : (List Int)) (s : Bool) : Option ty_174_0 := rangeO (fun i s d => bd_law13_FlowMore_11_2_0 s19 b0 b0_1 b0_2 b0_3 b0_4 b0_5 b0_6 b0_7 b0_8 b0_9 b0_10 b0_11 b0_12 b0_13 b0_14 b1 b1_1 b1_2 b1_3 b1_4 b1_5 b1_6 b1_7 b1_8 b1_9 b1_10 b1_11 b1_13 b1_14 b1_12 i s d) (fun s => fn_law13_FlowMore_11_2_0 s19 b0 b0_1 b0_2 b0_3 b0_4 b0_5 b0_6 b0_7 b0_8 b0_9 b0_10 b0_11 b0_12 b0_13 b0_14 b1 b1_1 b1_2 b1_3 b1_4 b1_5 b1_6 b1_7 b1_8 b1_9 b1_10 b1_11 b1_13 b1_14 b1_12 s) 0 b1_12 s
theorem rg_law13_FlowMore_11_2_0 (s19 : Int) (b0 : Bool) (b0_1 : (List I)) (b0_2 : (List I)) (b0_3 : (List I)) (b0_4 : Int) (b0_5 : Int) (b0_6 : Bool) (b0_7 : (List I)) (b0_8 : (List I)) (b0_9 : (List I)) (b0_10 : Int) (b0_11 : Int) (b0_12 : (List Int)) (b0_13 : (List En)) (b0_14 : (List Ac)) (b1 : Bool) (b1_1 : (List I)) (b1_2 : (List I)) (b1_3 : (List I)) (b1_4 : Int) (b1_5 : Int) (b1_6 : Bool) (b1_7 : (List I)) (b1_8 : (List I)) (b1_9 : (List I)) (b1_10 : Int) (b1_11 : Int) (b1_13 : (List En)) (b1_14 : (List Ac)) (b1_12 : (List Int)) (s : Bool) (hl : b1_12.length < 9223372036854775807) : L_law13_FlowMore_11_2_0 (s19, s, 0, b0, b0_1, b0_2, b0_3, b0_4, b0_5, b0_6, b0_7, b0_8, b0_9, b0_10, b0_11, b0_12, b0_13, b0_14, b1, b1_1, b1_2, b1_3, b1_4, b1_5, b1_6, b1_7, b1_8, b1_9, b1_10, b1_11, b1_12, b1_13, b1_14) = rv_law13_FlowMore_11_2_0 s19 b0 b0_1 b0_2 b0_3 b0_4 b0_5 b0_6 b0_7 b0_8 b0_9 b0_10 b0_11 b0_12 b0_13 b0_14 b1 b1_1 b1_2 b1_3 b1_4 b1_5 b1_6 b1_7 b1_8 b1_9 b1_10 b1_11 b1_13 b1_14 b1_12 s := by
  unfold L_law13_FlowMore_11_2_0 rv_law13_FlowMore_11_2_0
  refine iterO_range0 b1_12 (rx_law13_FlowMore_11_2_0 s19 b0 b0_1 b0_2 b0_3 b0_4 b0_5 b0_6 b0_7 b0_8 b0_9 b0_10 b0_11 b0_12 b0_13 b0_14 b1 b1_1 b1_2 b1_3 b1_4 b1_5 b1_6 b1_7 b1_8 b1_9 b1_10 b1_11 b1_13 b1_14 b1_12) _ _ ?_ ?_ s (by unfold FUEL; omega)
  · intro i s d hi hd
    have e1 : decide ((i : Int) < (b1_12.length : Int)) = true := decide_eq_true (by omega)
    have e2 : decide (0 ≤ (i : Int)) = true := decide_eq_true (by omega)
    have e3 : Int.toNat (i : Int) = i := Int.toNat_natCast i
    have e4 := wrap_next hi (Nat.le_of_lt hl)
    show st_law13_FlowMore_11_2_0 (s19) (s) ((i : Int)) (b0) (b0_1) (b0_2) (b0_3) (b0_4) (b0_5) (b0_6) (b0_7) (b0_8) (b0_9) (b0_10) (b0_11) (b0_12) (b0_13) (b0_14) (b1) (b1_1) (b1_2) (b1_3) (b1_4) (b1_5) (b1_6) (b1_7) (b1_8) (b1_9) (b1_10) (b1_11) (b1_12) (b1_13) (b1_14) = upd _ (bd_law13_FlowMore_11_2_0 s19 b0 b0_1 b0_2 b0_3 b0_4 b0_5 b0_6 b0_7 b0_8 b0_9 b0_10 b0_11 b0_12 b0_13 b0_14 b1 b1_1 b1_2 b1_3 b1_4 b1_5 b1_6 b1_7 b1_8 b1_9 b1_10 b1_11 b1_13 b1_14 b1_12 i s d)
    unfold st_law13_FlowMore_11_2_0 bd_law13_FlowMore_11_2_0
    simp only [e1, e2, e3, e4, hd, cond_true, cond_false, optC_some, upd_cond, upd_optC, upd_elim, upd_inl, upd_inr, upd_none]
  · intro s
    have e1 : decide ((b1_12.length : Int) < (b1_12.length : Int)) = false := decide_eq_false (by omega)
    show st_law13_FlowMore_11_2_0 (s19) (s) ((b1_12.length : Int)) (b0) (b0_1) (b0_2) (b0_3) (b0_4) (b0_5) (b0_6) (b0_7) (b0_8) (b0_9) (b0_10) (b0_11) (b0_12) (b0_13) (b0_14) (b1) (b1_1) (b1_2) (b1_3) (b1_4) (b1_5) (b1_6) (b1_7) (b1_8) (b1_9) (b1_10) (b1_11) (b1_12) (b1_13) (b1_14) = _
    unfold st_law13_FlowMore_11_2_0 fn_law13_FlowMore_11_2_0
    rw [e1]
    rfl
end Go.Proofs.Ytbdcblpjemmipaa.Ex

namespace Go.Proofs.Ytbdcblpjemmipaa.Ex
open Go.Proofs
set_option maxRecDepth 100000
set_option maxHeartbeats 2000000
set_option linter.unusedVariables false
set_option linter.unusedSimpArgs false
theorem find_go {Y : Type} {v : Int} {f : Nat → Bool → Int → Option (Bool ⊕ Y)} {fin : Bool → Option Y} (h : ∀ i s d, f i s d = some (.inl (bif s then true else d == v))) : ∀ (r : List Int) (i : Nat) (s : Bool), (s = true ∨ v ∈ r) → rangeO f fin i r s = fin true
  | [], i, s, k => by
    rcases k with rfl | k
    · rfl
    · cases k
  | d :: r, i, s, k => by
    rw [rangeO_inl (h i s d)]
    refine find_go h r (i + 1) _ ?_
    rcases k with rfl | k
    · exact .inl rfl
    · cases s
      · rcases List.mem_cons.1 k with rfl | k
        · exact .inl (by simp)
        · exact .inr k
      · exact .inl rfl
theorem inner (b0 : Bool) (b0_1 : (List I)) (b0_2 : (List I)) (b0_3 : (List I)) (b0_4 : Int) (b0_5 : Int) (b0_6 : Bool) (b0_7 : (List I)) (b0_8 : (List I)) (b0_9 : (List I)) (b0_10 : Int) (b0_11 : Int) (b0_12 : (List Int)) (b0_13 : (List En)) (b0_14 : (List Ac)) (b1 : Bool) (b1_1 : (List I)) (b1_2 : (List I)) (b1_3 : (List I)) (b1_4 : Int) (b1_5 : Int) (b1_6 : Bool) (b1_7 : (List I)) (b1_8 : (List I)) (b1_9 : (List I)) (b1_10 : Int) (b1_11 : Int) (b1_12 : (List Int)) (b1_13 : (List En)) (b1_14 : (List Ac)) (k : Nat) (v : Int) (hv : b0_12[k]? = some v) (h : v ∈ b1_12) (hl : b1_12.length ≤ 100) : L_law13_FlowMore_11_2_0 ((k : Int), Bool.false, 0, b0, b0_1, b0_2, b0_3, b0_4, b0_5, b0_6, b0_7, b0_8, b0_9, b0_10, b0_11, b0_12, b0_13, b0_14, b1, b1_1, b1_2, b1_3, b1_4, b1_5, b1_6, b1_7, b1_8, b1_9, b1_10, b1_11, b1_12, b1_13, b1_14) = some ((k : Int), Bool.true, b0, b0_1, b0_2, b0_3, b0_4, b0_5, b0_6, b0_7, b0_8, b0_9, b0_10, b0_11, b0_12, b0_13, b0_14, b1, b1_1, b1_2, b1_3, b1_4, b1_5, b1_6, b1_7, b1_8, b1_9, b1_10, b1_11, b1_12, b1_13, b1_14) := by
  rw [rg_law13_FlowMore_11_2_0 (k : Int) b0 b0_1 b0_2 b0_3 b0_4 b0_5 b0_6 b0_7 b0_8 b0_9 b0_10 b0_11 b0_12 b0_13 b0_14 b1 b1_1 b1_2 b1_3 b1_4 b1_5 b1_6 b1_7 b1_8 b1_9 b1_10 b1_11 b1_13 b1_14 b1_12 Bool.false (by omega)]
  unfold rv_law13_FlowMore_11_2_0
  rw [find_go (v := v) (fun i s d => ?_) b1_12 0 false (.inr h)]
  · rfl
  · unfold bd_law13_FlowMore_11_2_0
    rw [show decide (0 ≤ (k : Int)) = true from decide_eq_true (by omega), Int.toNat_natCast, hv]
    cases s <;> rfl
theorem alarms_loop (b0 : Bool) (b0_1 : (List I)) (b0_2 : (List I)) (b0_3 : (List I)) (b0_4 : Int) (b0_5 : Int) (b0_6 : Bool) (b0_7 : (List I)) (b0_8 : (List I)) (b0_9 : (List I)) (b0_10 : Int) (b0_11 : Int) (b0_12 : (List Int)) (b0_13 : (List En)) (b0_14 : (List Ac)) (b1 : Bool) (b1_1 : (List I)) (b1_2 : (List I)) (b1_3 : (List I)) (b1_4 : Int) (b1_5 : Int) (b1_6 : Bool) (b1_7 : (List I)) (b1_8 : (List I)) (b1_9 : (List I)) (b1_10 : Int) (b1_11 : Int) (b1_12 : (List Int)) (b1_13 : (List En)) (b1_14 : (List Ac)) (h : ∀ z ∈ b0_12, z ∈ b1_12) (l0 : b0_12.length ≤ 100) (l1 : b1_12.length ≤ 100) : L_law13_FlowMore_11_0_0 (0, b0, b0_1, b0_2, b0_3, b0_4, b0_5, b0_6, b0_7, b0_8, b0_9, b0_10, b0_11, b0_12, b0_13, b0_14, b1, b1_1, b1_2, b1_3, b1_4, b1_5, b1_6, b1_7, b1_8, b1_9, b1_10, b1_11, b1_12, b1_13, b1_14) = some (.inl ()) := by
  unfold L_law13_FlowMore_11_0_0
  refine iterO_map (fun i _ => (((i : Int), b0, b0_1, b0_2, b0_3, b0_4, b0_5, b0_6, b0_7, b0_8, b0_9, b0_10, b0_11, b0_12, b0_13, b0_14, b1, b1_1, b1_2, b1_3, b1_4, b1_5, b1_6, b1_7, b1_8, b1_9, b1_10, b1_11, b1_12, b1_13, b1_14) : (Int × Bool × (List I) × (List I) × (List I) × Int × Int × Bool × (List I) × (List I) × (List I) × Int × Int × (List Int) × (List En) × (List Ac) × Bool × (List I) × (List I) × (List I) × Int × Int × Bool × (List I) × (List I) × (List I) × Int × Int × (List Int) × (List En) × (List Ac)))) (fun _ d => d) (fun _ => (.inl () : Unit ⊕ Bool)) b0_12 ?_ ?_ (by omega)
  · intro i d r hd hr _
    have hj : i < b0_12.length := (List.getElem?_eq_some_iff.1 hd).1
    show st_law13_FlowMore_11_0_0 (i : Int) b0 b0_1 b0_2 b0_3 b0_4 b0_5 b0_6 b0_7 b0_8 b0_9 b0_10 b0_11 b0_12 b0_13 b0_14 b1 b1_1 b1_2 b1_3 b1_4 b1_5 b1_6 b1_7 b1_8 b1_9 b1_10 b1_11 b1_12 b1_13 b1_14 = _
    unfold st_law13_FlowMore_11_0_0
    rw [show decide ((i : Int) < (b0_12.length : Int)) = true from decide_eq_true (by omega), inner b0 b0_1 b0_2 b0_3 b0_4 b0_5 b0_6 b0_7 b0_8 b0_9 b0_10 b0_11 b0_12 b0_13 b0_14 b1 b1_1 b1_2 b1_3 b1_4 b1_5 b1_6 b1_7 b1_8 b1_9 b1_10 b1_11 b1_12 b1_13 b1_14 i d hd (h d (List.mem_of_getElem? hd)) l1, ]
    simp only [cond_true, optC_some, Bool.not_true, cond_false]
    rw [wrap_next hj (by omega)]
  · intro r hr
    show st_law13_FlowMore_11_0_0 (b0_12.length : Int) b0 b0_1 b0_2 b0_3 b0_4 b0_5 b0_6 b0_7 b0_8 b0_9 b0_10 b0_11 b0_12 b0_13 b0_14 b1 b1_1 b1_2 b1_3 b1_4 b1_5 b1_6 b1_7 b1_8 b1_9 b1_10 b1_11 b1_12 b1_13 b1_14 = _
    unfold st_law13_FlowMore_11_0_0
    rw [show decide ((b0_12.length : Int) < (b0_12.length : Int)) = false from decide_eq_false (by omega)]
    rfl
theorem ejoins_go (a b : List I) (hab : a.length = b.length) (hl : a.length ≤ 900) : ∀ (r : List I) (j : Nat) (s : List I), j + r.length = a.length → s.length = j →
    rangeO (fun i s d => bd_ref11_joins_87_0_0 b a i s d) (fun s => fn_ref11_joins_87_0_0 b a s) j r s = some (s ++ List.zipWith rJoin r (b.drop j))
  | [], j, s, h, hs => by simp [rangeO, fn_ref11_joins_87_0_0]
  | d :: r, j, s, h, hs => by
    simp only [List.length_cons] at h
    have hj : j < b.length := by omega
    have hb : bd_ref11_joins_87_0_0 b a j s d = some (.inl (s ++ [rJoin d b[j]])) := by
      unfold bd_ref11_joins_87_0_0 G_ref11_row G_ref2_Join g_ref11_row
      simp only
      rw [show decide ((j : Int) < (b.length : Int)) = true from decide_eq_true (by omega), show decide (0 ≤ (j : Int)) = true from decide_eq_true (by omega), Int.toNat_natCast, List.getElem?_eq_getElem hj]
      simp only [cond_true, optC_some, n_ref2_Join, List.length_cons, List.length_nil]
      rw [limc (by omega)]
      rfl
    refine (rangeO_inl hb).trans ((ejoins_go a b hab hl r (j + 1) _ (by omega) (by simp [hs])).trans ?_)
    rw [List.drop_eq_getElem_cons hj, List.zipWith_cons_cons, List.append_assoc]
    rfl
theorem n_joins (a b : List I) (hab : a.length = b.length) (hl : a.length ≤ 900) : g_ref11_joins a b = some (List.zipWith rJoin a b) := by
  unfold g_ref11_joins
  rw [rg_ref11_joins_87_0_0 b a [] (by omega)]
  unfold rv_ref11_joins_87_0_0
  rw [ejoins_go a b hab hl a 0 [] (by omega) rfl]
  rfl
theorem leR_join {a b : List I} (hab : a.length = b.length) (ha : ∀ x ∈ a, empB x = false) : leR a (List.zipWith rJoin a b) := by
  refine ⟨by simp [hab], fun i x y hx hy => ?_⟩
  rw [List.getElem?_zipWith, hx] at hy
  cases hb : b[i]? with
  | none => rw [hb] at hy; cases hy
  | some z =>
    rw [hb] at hy
    cases hy
    exact leq_iff.2 (.inr (rjoin_up (ha x (List.mem_of_getElem? hx))))
theorem join_mem {a b : List I} {y : I} (h : y ∈ List.zipWith rJoin a b) (ha : ∀ x ∈ a, isB x = true ∧ empB x = false) (hb : ∀ x ∈ b, isB x = true ∧ empB x = false) : isB y = true ∧ empB y = false := by
  obtain ⟨i, hi⟩ := List.mem_iff_getElem?.1 h
  rw [List.getElem?_zipWith] at hi
  cases p : a[i]? with
  | none => rw [p] at hi; cases hi
  | some x =>
    cases q : b[i]? with
    | none => rw [p, q] at hi; cases hi
    | some z =>
      rw [p, q] at hi
      cases hi
      have h1 := ha x (List.mem_of_getElem? p)
      exact ⟨rjoin_is h1.1 (hb z (List.mem_of_getElem? q)).1, rjoin_ne h1.2⟩
theorem good_env {u : U} {t : Int} {e : E} (hu : unitOK u) (he : envOK u t e) : goodE e := by
  obtain ⟨c', hc', hv⟩ := he.c
  have cv := (hu.ts c' (List.mem_of_getElem? hc')).v
  have h1 := hu.g
  have h2 := hu.a
  have h3 := he.g
  have h4 := he.a
  exact ⟨⟨by omega, by omega, by omega⟩, he.must, he.may⟩
theorem leE_refl {e : E} (h : e.1 = true) : leE e e := ⟨h, leR_refl _, leR_refl _, leR_refl _, fun _ k => k, fun _ k => k⟩
theorem n_join (u : U) (t : Int) (e f : E) (hu : unitOK u) (he : e.1 = true → envOK u t e) (hf : f.1 = true → envOK u t f) : ∃ g, g_ref11_Join e f = some g ∧ (g.1 = true → envOK u t g) ∧ leO e g := by
  unfold g_ref11_Join
  cases f1 : f.1
  · cases e1 : e.1
    · exact ⟨_, rfl, (fun k => nomatch k), (fun k => by rw [e1] at k; cases k)⟩
    · have ke : e = (true, e.2) := by rw [← e1]
      refine ⟨(true, e.2), rfl, fun _ => ?_, fun _ => ?_⟩
      · rw [← ke]; exact he e1
      · rw [← ke]; exact leE_refl e1
  · cases e1 : e.1
    · have kf : f = (true, f.2) := by rw [← f1]
      refine ⟨(true, f.2), rfl, fun _ => ?_, fun k => by rw [e1] at k; cases k⟩
      rw [← kf]; exact hf f1
    · have h1 := he e1
      have h2 := hf f1
      obtain ⟨c1, hc1, hv1⟩ := h1.c
      obtain ⟨c2, hc2, hv2⟩ := h2.c
      rw [hc1] at hc2; cases hc2
      have cv := (hu.ts c1 (List.mem_of_getElem? hc1)).v
      have ug := hu.g
      have ua := hu.a
      have g1 := h1.g
      have g2 := h2.g
      have a1 := h1.a
      have a2 := h2.a
      have q1 := n_joins e.2.1 f.2.1 (by omega) (by omega)
      have q2 := n_joins e.2.2.1 f.2.2.1 (by omega) (by omega)
      have q3 := n_joins e.2.2.2.1 f.2.2.2.1 (by omega) (by omega)
      have m1 := h1.must
      have m2 := h2.must
      have y1 := h1.may
      have y2 := h2.may
      have w1 := and64 (a := e.2.2.2.2.1.toNat) (b := f.2.2.2.2.1.toNat) (by omega) (by omega)
      have w2 := or64 (a := e.2.2.2.2.2.toNat) (b := f.2.2.2.2.2.toNat) (by omega) (by omega)
      rw [show ((e.2.2.2.2.1.toNat : Nat) : Int) = e.2.2.2.2.1 by omega, show ((f.2.2.2.2.1.toNat : Nat) : Int) = f.2.2.2.2.1 by omega] at w1
      rw [show ((e.2.2.2.2.2.toNat : Nat) : Int) = e.2.2.2.2.2 by omega, show ((f.2.2.2.2.2.toNat : Nat) : Int) = f.2.2.2.2.2 by omega] at w2
      have b1 : e.2.2.2.2.1.toNat &&& f.2.2.2.2.1.toNat < 2 ^ 31 := Nat.and_lt_two_pow _ (by omega)
      have b2 : e.2.2.2.2.2.toNat ||| f.2.2.2.2.2.toNat < 2 ^ 31 := Nat.or_lt_two_pow (by omega) (by omega)
      have inV : ∀ x ∈ e.2.1, isB x = true ∧ empB x = false := fun x hx => h1.v x (List.mem_append_left _ (List.mem_append_left _ hx))
      have inG : ∀ x ∈ e.2.2.1, isB x = true ∧ empB x = false := fun x hx => h1.v x (List.mem_append_left _ (List.mem_append_right _ hx))
      have inA : ∀ x ∈ e.2.2.2.1, isB x = true ∧ empB x = false := fun x hx => h1.v x (List.mem_append_right _ hx)
      refine ⟨(true, List.zipWith rJoin e.2.1 f.2.1, List.zipWith rJoin e.2.2.1 f.2.2.1, List.zipWith rJoin e.2.2.2.1 f.2.2.2.1, ((e.2.2.2.2.1.toNat &&& f.2.2.2.2.1.toNat : Nat) : Int), ((e.2.2.2.2.2.toNat ||| f.2.2.2.2.2.toNat : Nat) : Int)), ?_, fun _ => ⟨⟨c1, hc1, ?_⟩, ?_, ?_, ?_, ?_, fun x hx => ?_⟩, fun _ => ⟨rfl, leR_join (by omega) fun x hx => (inV x hx).2, leR_join (by omega) fun x hx => (inG x hx).2, leR_join (by omega) fun x hx => (inA x hx).2, fun i hi => ?_, fun i hi => ?_⟩⟩
      · simp only [Bool.not_true, cond_false, G_ref11_joins, q1, q2, q3, optC_some, w1, w2]
      · show ((List.zipWith rJoin e.2.1 f.2.1).length : Int) = c1.1
        rw [List.length_zipWith]; omega
      · show (List.zipWith rJoin e.2.2.1 f.2.2.1).length = _
        rw [List.length_zipWith]; omega
      · show (List.zipWith rJoin e.2.2.2.1 f.2.2.2.1).length = _
        rw [List.length_zipWith]; omega
      · show 0 ≤ ((e.2.2.2.2.1.toNat &&& f.2.2.2.2.1.toNat : Nat) : Int) ∧ ((e.2.2.2.2.1.toNat &&& f.2.2.2.2.1.toNat : Nat) : Int) < 2147483648
        omega
      · show 0 ≤ ((e.2.2.2.2.2.toNat ||| f.2.2.2.2.2.toNat : Nat) : Int) ∧ ((e.2.2.2.2.2.toNat ||| f.2.2.2.2.2.toNat : Nat) : Int) < 2147483648
        omega
      · simp only [List.mem_append] at hx
        rcases hx with (hx | hx) | hx
        · exact join_mem hx inV fun x hx => h2.v x (List.mem_append_left _ (List.mem_append_left _ hx))
        · exact join_mem hx inG fun x hx => h2.v x (List.mem_append_left _ (List.mem_append_right _ hx))
        · exact join_mem hx inA fun x hx => h2.v x (List.mem_append_right _ hx)
      · simp only [Int.toNat_natCast, Nat.testBit_and, Bool.and_eq_true] at hi
        exact hi.1
      · simp only [Int.toNat_natCast, Nat.testBit_or, Bool.or_eq_true]
        exact .inl hi
theorem do_more (u : U) (t n : Int) (e g : E) (l l' : List En) (h0 : 0 ≤ t) (hu : unitOK u) (hE : ∀ x ∈ l, entOK x) (hE' : ∀ x ∈ l', entOK x) (hl : l.length ≤ 1000) (hl' : l'.length ≤ 1000) (he : envOK u t e) (hg : envOK u t g) (e1 : e.1 = true) (hle : leE e g) (hT : leT l l')
    (hn : 0 ≤ n) (c : C) (hc : u.2.2.2[t.toNat]? = some c) (h2 : n < (c.2.length : Int)) : ∃ x y, g_flow_Do u t n e l = some x ∧ g_flow_Do u t n g l' = some y ∧ moreO x y := by
  obtain ⟨a, ga⟩ := look_ex c.2 n ⟨hn, h2⟩
  have ha := (hu.ts c (List.mem_of_getElem? hc)).a a (List.mem_of_getElem? ga)
  rw [bF_at u t n e l c a h0 hc hn ga e1, bF_at u t n g l' c a h0 hc hn ga hle.on]
  have ge := good_env hu he
  have gg := good_env hu hg
  obtain ⟨k, T, X, Y, G, N, op, nx, el⟩ := a
  have k1 : 1 ≤ k := ha.k1
  have k2 : k ≤ 14 := ha.k2
  have hk : k = 1 ∨ k = 2 ∨ k = 3 ∨ k = 4 ∨ k = 5 ∨ k = 6 ∨ k = 7 ∨ k = 8 ∨ k = 9 ∨ k = 10 ∨ k = 11 ∨ k = 12 ∨ k = 13 ∨ k = 14 := by omega
  rcases hk with rfl | rfl | rfl | rfl | rfl | rfl | rfl | rfl | rfl | rfl | rfl | rfl | rfl | rfl
  · exact more_1 u t n e g l l' c T X Y G N op nx el hu hE hE' hl hl' he hg ge gg hle hT hc ha
  · exact more_2 u t n e g l l' c T X Y G N op nx el hu hE hE' hl hl' he hg ge gg hle hT hc ha
  · exact more_3 u t n e g l l' c T X Y G N op nx el hu hE hE' hl hl' he hg ge gg hle hT hc ha
  · exact more_4 u t n e g l l' c T X Y G N op nx el hu hE hE' hl hl' he hg ge gg hle hT hc ha
  · exact more_5 u t n e g l l' c T X Y G N op nx el hu hE hE' hl hl' he hg ge gg hle hT hc ha
  · exact more_6 u t n e g l l' c T X Y G N op nx el hu hE hE' hl hl' he hg ge gg hle hT hc ha
  · exact more_7 u t n e g l l' c T X Y G N op nx el hu hE hE' hl hl' he hg ge gg hle hT hc ha
  · exact more_8 u t n e g l l' c T X Y G N op nx el hu hE hE' hl hl' he hg ge gg hle hT hc ha
  · exact more_9 u t n e g l l' c T X Y G N op nx el hu hE hE' hl hl' he hg ge gg hle hT hc ha
  · exact more_10 u t n e g l l' c T X Y G N op nx el hu hE hE' hl hl' he hg ge gg hle hT hc ha
  · exact more_11 u t n e g l l' c T X Y G N op nx el hu hE hE' hl hl' he hg ge gg hle hT hc ha
  · exact more_12 u t n e g l l' c T X Y G N op nx el hu hE hE' hl hl' he hg ge gg hle hT hc ha
  · exact more_13 u t n e g l l' c T X Y G N op nx el hu hE hE' hl hl' he hg ge gg hle hT hc ha
  · exact more_14 u t n e g l l' c T X Y G N op nx el hu hE hE' hl hl' he hg ge gg hle hT hc ha
theorem off_do (u : U) (t n : Int) (e : E) (l : List En) (h0 : 0 ≤ t) (hn : 0 ≤ n) (c : C) (hc : u.2.2.2[t.toNat]? = some c) (h2 : n < (c.2.length : Int)) (e1 : e.1 = false) : g_flow_Do u t n e l = some (offE, offE, [], [], []) := by
  obtain ⟨a, ga⟩ := look_ex c.2 n ⟨hn, h2⟩
  obtain ⟨on, V, G, A, must, may⟩ := e
  cases e1
  have k0 : decide (0 ≤ t) = true := decide_eq_true h0
  have k1 : decide (0 ≤ n) = true := decide_eq_true hn
  unfold g_flow_Do
  rw [k0, hc, k1, cond_true, optC_some, cond_true, ga, optC_some]
  rfl
theorem more_off (y : O) (h3 : goodE y.1) (h4 : goodE y.2.1) (hl : y.2.2.1.length ≤ 100) : moreO (offE, offE, [], [], []) y :=
  ⟨leO_off _, leO_off _, (fun z h => nomatch h), Nat.zero_le _, Nat.zero_le _, good_off, good_off, h3, h4, ⟨by decide, hl⟩⟩
theorem flowMore (u : U) (t n : Int) (e f : E) (a b : List En) (hs : sizeU u) (hla : a.length < 9223372036854775807) (hlb : b.length < 9223372036854775807) : g_law13_FlowMore u t n e f a b = some true := by
  unfold g_law13_FlowMore G_law13_asked
  obtain ⟨p, hp, hk⟩ := n_law13_asked u t e a hs hla
  obtain ⟨p', hp', hk'⟩ := n_law13_asked u t f b hs hlb
  simp only [hp, hp', optC_some]
  cases p
  · rfl
  cases p'
  · rfl
  have q1 := hk rfl
  have q2 := hk' rfl
  by_cases h1 : n < 0
  · rw [decide_eq_true h1]; rfl
  obtain ⟨c, hc⟩ := look_ex u.2.2.2 t q1.ht
  have eT : decide (0 ≤ t) = true := decide_eq_true q1.ht.1
  by_cases h2 : n ≥ (c.2.length : Int)
  · rw [decide_eq_false h1, eT, hc]; simp only [optC_some, cond_true, cond_false, Bool.not_true]; rw [decide_eq_true h2]; rfl
  obtain ⟨g, g1, g2, g3⟩ := n_join u t e f q1.hu q1.he q2.he
  have hna := q1.hn
  have hnb := q2.hn
  obtain ⟨d, d1, d2, d3, d4⟩ := n_ref12_Add a b q1.hl.e (fun x hx => ⟨(q2.hl.e x hx).v, (q2.hl.e x hx).h⟩) (by omega)
  have fin : ∃ x y, g_flow_Do u t n e a = some x ∧ g_flow_Do u t n g d = some y ∧ moreO x y := by
    cases e1 : e.1
    · have o1 := off_do u t n e a q1.ht.1 (by omega) c hc (by omega) e1
      cases gg : g.1
      · exact ⟨_, _, o1, off_do u t n g d q1.ht.1 (by omega) c hc (by omega) gg, more_off _ good_off good_off (by decide)⟩
      · obtain ⟨x, y, _, y2, y3⟩ := do_more u t n g g d d q1.ht.1 q1.hu d2 d2 (by omega) (by omega) (g2 gg) (g2 gg) gg (leE_refl gg) (leT_refl d) (by omega) c hc (by omega)
        exact ⟨_, y, o1, y2, more_off y y3.g3 y3.g4 y3.la.2⟩
    · have hle := g3 e1
      exact do_more u t n e g a d q1.ht.1 q1.hu q1.hl.e d2 (by omega) (by omega) (q1.he e1) (g2 hle.on) e1 hle d3 (by omega) c hc (by omega)
  obtain ⟨x, y, x1, y1, m⟩ := fin
  have k1 := n_ref11_Leq m.nx m.g1.1 m.g1.2.1 m.g1.2.2 m.g3.2.1 m.g3.2.2
  have k2 := n_ref11_Leq m.el m.g2.1 m.g2.2.1 m.g2.2.2 m.g4.2.1 m.g4.2.2
  have e5 : decide ((x.2.2.2.2.length : Int) > (y.2.2.2.2.length : Int)) = false := decide_eq_false (by have := m.ac; omega)
  have e6 : decide ((x.2.2.2.1.length : Int) > (y.2.2.2.1.length : Int)) = false := decide_eq_false (by have := m.st; omega)
  simp only [decide_eq_false h1, eT, hc, decide_eq_false h2, G_ref11_Join, g1, G_ref12_Add, d1, G_flow_Do, x1, y1, G_ref11_Leq, k1, k2, optC_some, cond_true, cond_false, Bool.not_true, e5, e6]
  rw [alarms_loop _ _ _ _ _ _ _ _ _ _ _ _ _ _ _ _ _ _ _ _ _ _ _ _ _ _ _ _ _ _ m.al m.la.1 m.la.2]
  rfl
end Go.Proofs.Ytbdcblpjemmipaa.Ex

