/- A part of the proofs of the laws of flow: ZG. -/
import Derived.Test.YtbdcblpjemmipaaZF
namespace Go.Proofs.Ytbdcblpjemmipaa.Ex
open Go.Proofs Go.Proofs.Ytbdcblpjemmipaa
set_option maxRecDepth 100000
set_option maxHeartbeats 2000000
set_option linter.unusedVariables false
set_option linter.unusedSimpArgs false
abbrev ty_73_0 : Type := ((Unit × (Int × (Unit × (Int × (Int × Unit))))) × (((List Int) × ((List Int) × (Int × ((List C) × Unit)))) × ((Int × ((List A) × Unit)) × Unit)))
abbrev ty_73_1 : Type := ((Unit × (Unit × (Int × Unit))) × (((List Int) × ((List Int) × (Int × ((List C) × Unit)))) × Unit))
abbrev ty_73_2 : Type := ((Unit × (Bool × (Int × Unit))) × (((List Int) × ((List Int) × (Int × ((List C) × Unit)))) × Unit))
abbrev ty_73_3 : Type := ((Unit × (Unit × Unit)) × (((List Int) × ((List Int) × (Int × ((List C) × Unit)))) × Unit))
abbrev ty_73_4 : Type := ((Unit × (Bool × Unit)) × (((List Int) × ((List Int) × (Int × ((List C) × Unit)))) × Unit))
abbrev ty_73_5 : Type := ((Unit × (Int × Unit)) × (((List Int) × ((List Int) × (Int × ((List C) × Unit)))) × Unit))
abbrev ty_73_6 : Type := (Int × Int × Int × (List Int) × (List Int) × Int × (List C) × Int × (List A))
abbrev fn_73_0 := (fun (x : (Bool × Int × (List Int) × (List Int) × Int × (List C))) => ((((), x.1, x.2.1, ()), ((x.2.2.1, x.2.2.2.1, x.2.2.2.2.1, x.2.2.2.2.2, ()), ())) : ty_73_2))
abbrev fn_73_1 := (fun (x : (Int × (List Int) × (List Int) × Int × (List C))) => ((((), (), x.1, ()), ((x.2.1, x.2.2.1, x.2.2.2.1, x.2.2.2.2, ()), ())) : ty_73_1))
abbrev fn_73_2 := (fun (d : ty_73_0) => ((d.1.2.1, d.1.2.2.2.1, d.1.2.2.2.2.1, d.2.1.1, d.2.1.2.1, d.2.1.2.2.1, d.2.1.2.2.2.1, d.2.2.1.1, d.2.2.1.2.1) : ty_73_6))
abbrev fn_73_3 := (fun (x : (Bool × (List Int) × (List Int) × Int × (List C))) => ((((), x.1, ()), ((x.2.1, x.2.2.1, x.2.2.2.1, x.2.2.2.2, ()), ())) : ty_73_4))
abbrev fn_73_4 := (fun (x : (Int × (List Int) × (List Int) × Int × (List C))) => ((((), x.1, ()), ((x.2.1, x.2.2.1, x.2.2.2.1, x.2.2.2.2, ()), ())) : ty_73_5))
abbrev fn_73_5 := (fun (d : ty_73_4) => ((d.1.2.1, d.2.1.1, d.2.1.2.1, d.2.1.2.2.1, d.2.1.2.2.2.1) : (Bool × (List Int) × (List Int) × Int × (List C))))
abbrev fn_73_6 := (fun (d : ty_73_5) => ((d.1.2.1, d.2.1.1, d.2.1.2.1, d.2.1.2.2.1, d.2.1.2.2.2.1) : (Int × (List Int) × (List Int) × Int × (List C))))
abbrev fn_73_7 := (fun (x : ((List Int) × (List Int) × Int × (List C))) => ((((), (), ()), ((x.1, x.2.1, x.2.2.1, x.2.2.2, ()), ())) : ty_73_3))
abbrev fn_73_8 := (fun (d : ty_73_3) => ((d.2.1.1, d.2.1.2.1, d.2.1.2.2.1, d.2.1.2.2.2.1) : ((List Int) × (List Int) × Int × (List C))))
def ash_ref8_Is : List Sh := [.dat tU]
def kp_ref8_Is_82_0 : Nat → List Nat := fun c => bif c.beq 0 then [1, 3] else [1, 2]
def kp_ref8_Is_82_2 : Nat → List Nat := fun c => bif c.beq 0 then [1, 4] else [1, 2]
def kp_ref8_Is_82_6 : Nat → List Nat := fun c => bif c.beq 0 then [1, 5, 6, 7, 8] else [1, 2, 5]
def kp_ref8_Is_82_4 : Nat → List Nat := fun c => bif c.beq 0 then [1, 5] else [2]
noncomputable def sp_ref8_Is : Nat → Option (List AV → Prog AV)
  | 117 => some (con_ref8_in)
  | 51 => some (con_ref1_Fits)
  | 118 => some (con_ref8_act)
  | _ => none
theorem hsp_ref8_Is : ∀ g p, sp_ref8_Is g = some p → SoundA Try.prog g p := by
  intro g p h
  unfold sp_ref8_Is at h
  split at h
  · cases h; exact snd_ref8_in
  · cases h; exact snd_ref1_Fits
  · cases h; exact snd_ref8_act
  · cases h
noncomputable def cx_ref8_Is0 : Ctx := { tab := tab, spec := sp_ref8_Is, inl := inl, lps := fun _ _ => none, fuel := 40 }
theorem in_ref8_Is0 : InlOk Try.prog cx_ref8_Is0 := ⟨inl_ok, fun _ _ _ _ _ _ _ _ h => nomatch h⟩
theorem cal_ref8_Is0 (g : Nat) : SoundA Try.prog g (evF cx_ref8_Is0 keeps 8 g) := evF_sound (tabOk_of tab_ok) (cmpsOk_of tab_ok cmps_ok) mixed in_ref8_Is0 hsp_ref8_Is keeps 8 g
noncomputable def F_ref8_Is_82_0 (base : Nat) : Tm → Prog (Nat × Tm) := evC cx_ref8_Is0 (evF cx_ref8_Is0 keeps 8) ⟨82, 123, keeps 82, base⟩ 0 (bodyX 82 0)
def s_ref8_Is_82_0_0 : StS := ⟨[(1, .ptr 0 0), (3, .int .i64)], [(0, .box [.sl (.int .i64), .sl (.int .i64), .int .i64, .sl tC])], 1⟩
def x_ref8_Is_82_0_0_0 : StS := ⟨[(1, .ptr 0 0), (2, .undef)], [(0, .box [.sl (.int .i64), .sl (.int .i64), .int .i64, .sl tC])], 1⟩
def x_ref8_Is_82_0_0_1 : StS := ⟨[(1, .ptr 0 0), (2, .bool)], [(0, .box [.sl (.int .i64), .sl (.int .i64), .int .i64, .sl tC])], 1⟩
noncomputable def st_ref8_Is_82_0_0 (s3 : Int) (b0 : (List Int)) (b0_1 : (List Int)) (b0_2 : Int) (b0_3 : (List C)) : Option ((Int × (List Int) × (List Int) × Int × (List C)) ⊕ (((List Int) × (List Int) × Int × (List C)) ⊕ (Bool × (List Int) × (List Int) × Int × (List C)))) :=
  bif decide (s3 < (↑b0.length : Int)) then
 bif decide (0 ≤ s3) then
 optC b0[s3.toNat]? none fun d10 ↦
 optC (G_ref1_Fits (d10, ())) none fun d11 ↦
 bif !d11 then some (Sum.inr (Sum.inr (false, b0, b0_1, b0_2, b0_3))) else some (Sum.inl (Go.IntKind.i64.wrap (s3 + 1), b0, b0_1, b0_2, b0_3))
 else none
 else some (Sum.inr (Sum.inl (b0, b0_1, b0_2, b0_3)))
theorem rn_ref8_Is_82_0_0 (s3 : Int) (b0 : (List Int)) (b0_1 : (List Int)) (b0_2 : Int) (b0_3 : (List C)) : rdX cx_ref8_Is0 keeps 8 ⟨82, 123, keeps 82, 0⟩ 0 (bodyX 82 0) 0 kp_ref8_Is_82_0 (sT s_ref8_Is_82_0_0 (((), s3, ()), ((b0, b0_1, b0_2, b0_3, ()), ()))) (sH s_ref8_Is_82_0_0 (((), s3, ()), ((b0, b0_1, b0_2, b0_3, ()), ()))) (rdO (fun T h => (rdS s_ref8_Is_82_0_0 T h).map fn_73_6) (getOr (getE 2 x_ref8_Is_82_0_0_0 fn_73_8) (getE 1 x_ref8_Is_82_0_0_1 fn_73_5))) = st_ref8_Is_82_0_0 s3 b0 b0_1 b0_2 b0_3 := by kernel_rfl
noncomputable def L_ref8_Is_82_0_0 (x : (Int × (List Int) × (List Int) × Int × (List C))) : Option (((List Int) × (List Int) × Int × (List C)) ⊕ (Bool × (List Int) × (List Int) × Int × (List C))) := iterO (fun x => st_ref8_Is_82_0_0 x.1 x.2.1 x.2.2.1 x.2.2.2.1 x.2.2.2.2) FUEL x
noncomputable def q_ref8_Is_82_0 : Nat → Tm → Prog (Nat × Tm) := (varP 0 (fun T h => (rdS s_ref8_Is_82_0_0 T h).map fn_73_6) L_ref8_Is_82_0_0 (fun y => .alt y (altE 2 x_ref8_Is_82_0_0_0 fn_73_7) (altE 1 x_ref8_Is_82_0_0_1 fn_73_3)) (fun _ _ => .fail))
theorem ok_ref8_Is_82_0 : VarOk kp_ref8_Is_82_0 F_ref8_Is_82_0 q_ref8_Is_82_0 := (varX_ok (s := s_ref8_Is_82_0_0) (un := fn_73_4) (by rfl) (fun _ => rfl) (getOr_ok (getE_ok (s := x_ref8_Is_82_0_0_0) (un := fn_73_7) (by rfl) (fun _ => rfl)) (getE_ok (s := x_ref8_Is_82_0_0_1) (un := fn_73_3) (by rfl) (fun _ => rfl))) (step := fun x => st_ref8_Is_82_0_0 x.1 x.2.1 x.2.2.1 x.2.2.2.1 x.2.2.2.2) (fun x => rn_ref8_Is_82_0_0 x.1 x.2.1 x.2.2.1 x.2.2.2.1 x.2.2.2.2) (fun _ _ e => ⟨_, e⟩) (altOr_ok (altE_ok 2 x_ref8_Is_82_0_0_0 fn_73_7) (altE_ok 1 x_ref8_Is_82_0_0_1 fn_73_3)) (VarOk.fail _ _))
noncomputable def lpI_ref8_Is_82_0 (base : Nat) (T : Tm) : Prog (Nat × Tm) := .norm base (kp_ref8_Is_82_0 0) T (q_ref8_Is_82_0 base)
theorem sndI_ref8_Is_82_0 : SoundC Try.prog 123 (.loop (bodyX 82 0)) lpI_ref8_Is_82_0 := loopK_sound (cx := cx_ref8_Is0) (cal := evF cx_ref8_Is0 keeps 8) (kp := keeps 82) (tabOk_of tab_ok) (cmpsOk_of tab_ok cmps_ok) cal_ref8_Is0 mixed (hl_of (g := 82) (b := 0) in_ref8_Is0 (by kernel_rfl) (by kernel_rfl)) ok_ref8_Is_82_0
noncomputable def lpL_ref8_Is_82_0 : Nat → Tm → Prog (Nat × Tm) := lpI_ref8_Is_82_0
theorem sndL_ref8_Is_82_0 : SoundC Try.prog 123 (.loop (bodyX 82 0)) lpL_ref8_Is_82_0 := sndI_ref8_Is_82_0
noncomputable def lp_ref8_Is1 : Nat → Nat → Option (Nat → Tm → Prog (Nat × Tm))
  | 82, 0 => some lpL_ref8_Is_82_0
  | _, _ => none
noncomputable def cx_ref8_Is1 : Ctx := { tab := tab, spec := sp_ref8_Is, inl := inl, lps := lp_ref8_Is1, fuel := 40 }
theorem in_ref8_Is1 : InlOk Try.prog cx_ref8_Is1 := ⟨inl_ok, fun g fn c hg hb q hq p hp => by
  change lp_ref8_Is1 g q.1 = some p at hp
  change inl g = some fn at hg
  generalize hq1 : q.1 = b at hp
  unfold lp_ref8_Is1 at hp
  split at hp
  · cases hp; exact lps_case (inl := inl) hg hb hq hq1 (by kernel_rfl) (by kernel_rfl) sndL_ref8_Is_82_0
  · cases hp⟩
theorem cal_ref8_Is1 (g : Nat) : SoundA Try.prog g (evF cx_ref8_Is1 keeps 8 g) := evF_sound (tabOk_of tab_ok) (cmpsOk_of tab_ok cmps_ok) mixed in_ref8_Is1 hsp_ref8_Is keeps 8 g
noncomputable def F_ref8_Is_82_2 (base : Nat) : Tm → Prog (Nat × Tm) := evC cx_ref8_Is1 (evF cx_ref8_Is1 keeps 8) ⟨82, 123, keeps 82, base⟩ 2 (bodyX 82 2)
def s_ref8_Is_82_2_0 : StS := ⟨[(1, .ptr 0 0), (4, .int .i64)], [(0, .box [.sl (.int .i64), .sl (.int .i64), .int .i64, .sl tC])], 1⟩
def x_ref8_Is_82_2_0_0 : StS := ⟨[(1, .ptr 0 0), (2, .undef)], [(0, .box [.sl (.int .i64), .sl (.int .i64), .int .i64, .sl tC])], 1⟩
def x_ref8_Is_82_2_0_1 : StS := ⟨[(1, .ptr 0 0), (2, .bool)], [(0, .box [.sl (.int .i64), .sl (.int .i64), .int .i64, .sl tC])], 1⟩
noncomputable def st_ref8_Is_82_2_0 (s4 : Int) (b0 : (List Int)) (b0_1 : (List Int)) (b0_2 : Int) (b0_3 : (List C)) : Option ((Int × (List Int) × (List Int) × Int × (List C)) ⊕ (((List Int) × (List Int) × Int × (List C)) ⊕ (Bool × (List Int) × (List Int) × Int × (List C)))) :=
  bif decide (s4 < (↑b0_1.length : Int)) then
 bif decide (0 ≤ s4) then
 optC b0_1[s4.toNat]? none fun d10 ↦
 bif decide (d10 < 1) then some (Sum.inr (Sum.inr (false, b0, b0_1, b0_2, b0_3)))
 else
 bif decide (0 ≤ s4) then
 optC b0_1[s4.toNat]? none fun d11 ↦
 bif decide (d11 > 16) then some (Sum.inr (Sum.inr (false, b0, b0_1, b0_2, b0_3))) else some (Sum.inl (Go.IntKind.i64.wrap (s4 + 1), b0, b0_1, b0_2, b0_3))
 else none
 else none
 else some (Sum.inr (Sum.inl (b0, b0_1, b0_2, b0_3)))
theorem rn_ref8_Is_82_2_0 (s4 : Int) (b0 : (List Int)) (b0_1 : (List Int)) (b0_2 : Int) (b0_3 : (List C)) : rdX cx_ref8_Is1 keeps 8 ⟨82, 123, keeps 82, 0⟩ 2 (bodyX 82 2) 0 kp_ref8_Is_82_2 (sT s_ref8_Is_82_2_0 (((), s4, ()), ((b0, b0_1, b0_2, b0_3, ()), ()))) (sH s_ref8_Is_82_2_0 (((), s4, ()), ((b0, b0_1, b0_2, b0_3, ()), ()))) (rdO (fun T h => (rdS s_ref8_Is_82_2_0 T h).map fn_73_6) (getOr (getE 4 x_ref8_Is_82_2_0_0 fn_73_8) (getE 1 x_ref8_Is_82_2_0_1 fn_73_5))) = st_ref8_Is_82_2_0 s4 b0 b0_1 b0_2 b0_3 := by kernel_rfl
noncomputable def L_ref8_Is_82_2_0 (x : (Int × (List Int) × (List Int) × Int × (List C))) : Option (((List Int) × (List Int) × Int × (List C)) ⊕ (Bool × (List Int) × (List Int) × Int × (List C))) := iterO (fun x => st_ref8_Is_82_2_0 x.1 x.2.1 x.2.2.1 x.2.2.2.1 x.2.2.2.2) FUEL x
noncomputable def q_ref8_Is_82_2 : Nat → Tm → Prog (Nat × Tm) := (varP 0 (fun T h => (rdS s_ref8_Is_82_2_0 T h).map fn_73_6) L_ref8_Is_82_2_0 (fun y => .alt y (altE 4 x_ref8_Is_82_2_0_0 fn_73_7) (altE 1 x_ref8_Is_82_2_0_1 fn_73_3)) (fun _ _ => .fail))
theorem ok_ref8_Is_82_2 : VarOk kp_ref8_Is_82_2 F_ref8_Is_82_2 q_ref8_Is_82_2 := (varX_ok (s := s_ref8_Is_82_2_0) (un := fn_73_4) (by rfl) (fun _ => rfl) (getOr_ok (getE_ok (s := x_ref8_Is_82_2_0_0) (un := fn_73_7) (by rfl) (fun _ => rfl)) (getE_ok (s := x_ref8_Is_82_2_0_1) (un := fn_73_3) (by rfl) (fun _ => rfl))) (step := fun x => st_ref8_Is_82_2_0 x.1 x.2.1 x.2.2.1 x.2.2.2.1 x.2.2.2.2) (fun x => rn_ref8_Is_82_2_0 x.1 x.2.1 x.2.2.1 x.2.2.2.1 x.2.2.2.2) (fun _ _ e => ⟨_, e⟩) (altOr_ok (altE_ok 4 x_ref8_Is_82_2_0_0 fn_73_7) (altE_ok 1 x_ref8_Is_82_2_0_1 fn_73_3)) (VarOk.fail _ _))
noncomputable def lpI_ref8_Is_82_2 (base : Nat) (T : Tm) : Prog (Nat × Tm) := .norm base (kp_ref8_Is_82_2 0) T (q_ref8_Is_82_2 base)
theorem sndI_ref8_Is_82_2 : SoundC Try.prog 123 (.loop (bodyX 82 2)) lpI_ref8_Is_82_2 := loopK_sound (cx := cx_ref8_Is1) (cal := evF cx_ref8_Is1 keeps 8) (kp := keeps 82) (tabOk_of tab_ok) (cmpsOk_of tab_ok cmps_ok) cal_ref8_Is1 mixed (hl_of (g := 82) (b := 2) in_ref8_Is1 (by kernel_rfl) (by kernel_rfl)) ok_ref8_Is_82_2
noncomputable def lpL_ref8_Is_82_2 : Nat → Tm → Prog (Nat × Tm) := lpI_ref8_Is_82_2
theorem sndL_ref8_Is_82_2 : SoundC Try.prog 123 (.loop (bodyX 82 2)) lpL_ref8_Is_82_2 := sndI_ref8_Is_82_2
noncomputable def lp_ref8_Is2 : Nat → Nat → Option (Nat → Tm → Prog (Nat × Tm))
  | 82, 0 => some lpL_ref8_Is_82_0
  | 82, 2 => some lpL_ref8_Is_82_2
  | _, _ => none
noncomputable def cx_ref8_Is2 : Ctx := { tab := tab, spec := sp_ref8_Is, inl := inl, lps := lp_ref8_Is2, fuel := 40 }
theorem in_ref8_Is2 : InlOk Try.prog cx_ref8_Is2 := ⟨inl_ok, fun g fn c hg hb q hq p hp => by
  change lp_ref8_Is2 g q.1 = some p at hp
  change inl g = some fn at hg
  generalize hq1 : q.1 = b at hp
  unfold lp_ref8_Is2 at hp
  split at hp
  · cases hp; exact lps_case (inl := inl) hg hb hq hq1 (by kernel_rfl) (by kernel_rfl) sndL_ref8_Is_82_0
  · cases hp; exact lps_case (inl := inl) hg hb hq hq1 (by kernel_rfl) (by kernel_rfl) sndL_ref8_Is_82_2
  · cases hp⟩
theorem cal_ref8_Is2 (g : Nat) : SoundA Try.prog g (evF cx_ref8_Is2 keeps 8 g) := evF_sound (tabOk_of tab_ok) (cmpsOk_of tab_ok cmps_ok) mixed in_ref8_Is2 hsp_ref8_Is keeps 8 g
noncomputable def F_ref8_Is_82_6 (base : Nat) : Tm → Prog (Nat × Tm) := evC cx_ref8_Is2 (evF cx_ref8_Is2 keeps 8) ⟨82, 123, keeps 82, base⟩ 6 (bodyX 82 6)
def s_ref8_Is_82_6_0 : StS := ⟨[(1, .ptr 0 0), (5, .int .i64), (6, .ptr 1 0), (7, .int .i64), (8, .int .i64)], [(0, .box [.sl (.int .i64), .sl (.int .i64), .int .i64, .sl tC]), (1, .box [.int .i64, .sl tA])], 2⟩
def x_ref8_Is_82_6_0_0 : StS := ⟨[(1, .ptr 0 0), (2, .undef), (5, .int .i64)], [(0, .box [.sl (.int .i64), .sl (.int .i64), .int .i64, .sl tC])], 1⟩
def x_ref8_Is_82_6_0_1 : StS := ⟨[(1, .ptr 0 0), (2, .bool), (5, .int .i64)], [(0, .box [.sl (.int .i64), .sl (.int .i64), .int .i64, .sl tC])], 1⟩
noncomputable def st_ref8_Is_82_6_0 (s5 : Int) (s7 : Int) (s8 : Int) (b0 : (List Int)) (b0_1 : (List Int)) (b0_2 : Int) (b0_3 : (List C)) (b1 : Int) (b1_1 : (List A)) : Option (ty_73_6 ⊕ ((Int × (List Int) × (List Int) × Int × (List C)) ⊕ (Bool × Int × (List Int) × (List Int) × Int × (List C)))) :=
  bif decide (s8 < s7) then
 bif decide (0 ≤ s8) then
 optC b1_1[s8.toNat]? none fun d14 ↦
 optC (G_ref8_act ((b0, b0_1, b0_2, b0_3), (b1, b1_1), d14, ())) none fun d15 ↦
 bif !d15 then some (Sum.inr (Sum.inr (false, s5, b0, b0_1, b0_2, b0_3))) else some (Sum.inl (s5, s7, Go.IntKind.i64.wrap (s8 + 1), b0, b0_1, b0_2, b0_3, b1, b1_1))
 else none
 else some (Sum.inr (Sum.inl (s5, b0, b0_1, b0_2, b0_3)))
theorem rn_ref8_Is_82_6_0 (s5 : Int) (s7 : Int) (s8 : Int) (b0 : (List Int)) (b0_1 : (List Int)) (b0_2 : Int) (b0_3 : (List C)) (b1 : Int) (b1_1 : (List A)) : rdX cx_ref8_Is2 keeps 8 ⟨82, 123, keeps 82, 0⟩ 6 (bodyX 82 6) 0 kp_ref8_Is_82_6 (sT s_ref8_Is_82_6_0 (((), s5, (), s7, s8, ()), ((b0, b0_1, b0_2, b0_3, ()), (b1, b1_1, ()), ()))) (sH s_ref8_Is_82_6_0 (((), s5, (), s7, s8, ()), ((b0, b0_1, b0_2, b0_3, ()), (b1, b1_1, ()), ()))) (rdO (fun T h => (rdS s_ref8_Is_82_6_0 T h).map fn_73_2) (getOr (getE 8 x_ref8_Is_82_6_0_0 (fun (d : ty_73_1) => ((d.1.2.2.1, d.2.1.1, d.2.1.2.1, d.2.1.2.2.1, d.2.1.2.2.2.1) : (Int × (List Int) × (List Int) × Int × (List C))))) (getE 1 x_ref8_Is_82_6_0_1 (fun (d : ty_73_2) => ((d.1.2.1, d.1.2.2.1, d.2.1.1, d.2.1.2.1, d.2.1.2.2.1, d.2.1.2.2.2.1) : (Bool × Int × (List Int) × (List Int) × Int × (List C))))))) = st_ref8_Is_82_6_0 s5 s7 s8 b0 b0_1 b0_2 b0_3 b1 b1_1 := by kernel_rfl
noncomputable def L_ref8_Is_82_6_0 (x : ty_73_6) : Option ((Int × (List Int) × (List Int) × Int × (List C)) ⊕ (Bool × Int × (List Int) × (List Int) × Int × (List C))) := iterO (fun x => st_ref8_Is_82_6_0 x.1 x.2.1 x.2.2.1 x.2.2.2.1 x.2.2.2.2.1 x.2.2.2.2.2.1 x.2.2.2.2.2.2.1 x.2.2.2.2.2.2.2.1 x.2.2.2.2.2.2.2.2) FUEL x
noncomputable def q_ref8_Is_82_6 : Nat → Tm → Prog (Nat × Tm) := (varP 0 (fun T h => (rdS s_ref8_Is_82_6_0 T h).map fn_73_2) L_ref8_Is_82_6_0 (fun y => .alt y (altE 8 x_ref8_Is_82_6_0_0 fn_73_1) (altE 1 x_ref8_Is_82_6_0_1 fn_73_0)) (fun _ _ => .fail))
theorem ok_ref8_Is_82_6 : VarOk kp_ref8_Is_82_6 F_ref8_Is_82_6 q_ref8_Is_82_6 := (varX_ok (s := s_ref8_Is_82_6_0) (un := (fun (x : ty_73_6) => ((((), x.1, (), x.2.1, x.2.2.1, ()), ((x.2.2.2.1, x.2.2.2.2.1, x.2.2.2.2.2.1, x.2.2.2.2.2.2.1, ()), (x.2.2.2.2.2.2.2.1, x.2.2.2.2.2.2.2.2, ()), ())) : ty_73_0))) (by rfl) (fun _ => rfl) (getOr_ok (getE_ok (s := x_ref8_Is_82_6_0_0) (un := fn_73_1) (by rfl) (fun _ => rfl)) (getE_ok (s := x_ref8_Is_82_6_0_1) (un := fn_73_0) (by rfl) (fun _ => rfl))) (step := fun x => st_ref8_Is_82_6_0 x.1 x.2.1 x.2.2.1 x.2.2.2.1 x.2.2.2.2.1 x.2.2.2.2.2.1 x.2.2.2.2.2.2.1 x.2.2.2.2.2.2.2.1 x.2.2.2.2.2.2.2.2) (fun x => rn_ref8_Is_82_6_0 x.1 x.2.1 x.2.2.1 x.2.2.2.1 x.2.2.2.2.1 x.2.2.2.2.2.1 x.2.2.2.2.2.2.1 x.2.2.2.2.2.2.2.1 x.2.2.2.2.2.2.2.2) (fun _ _ e => ⟨_, e⟩) (altOr_ok (altE_ok 8 x_ref8_Is_82_6_0_0 fn_73_1) (altE_ok 1 x_ref8_Is_82_6_0_1 fn_73_0)) (VarOk.fail _ _))
noncomputable def lpI_ref8_Is_82_6 (base : Nat) (T : Tm) : Prog (Nat × Tm) := .norm base (kp_ref8_Is_82_6 0) T (q_ref8_Is_82_6 base)
theorem sndI_ref8_Is_82_6 : SoundC Try.prog 123 (.loop (bodyX 82 6)) lpI_ref8_Is_82_6 := loopK_sound (cx := cx_ref8_Is2) (cal := evF cx_ref8_Is2 keeps 8) (kp := keeps 82) (tabOk_of tab_ok) (cmpsOk_of tab_ok cmps_ok) cal_ref8_Is2 mixed (hl_of (g := 82) (b := 6) in_ref8_Is2 (by kernel_rfl) (by kernel_rfl)) ok_ref8_Is_82_6
noncomputable def lpL_ref8_Is_82_6 : Nat → Tm → Prog (Nat × Tm) := lpI_ref8_Is_82_6
theorem sndL_ref8_Is_82_6 : SoundC Try.prog 123 (.loop (bodyX 82 6)) lpL_ref8_Is_82_6 := sndI_ref8_Is_82_6
noncomputable def lp_ref8_Is3 : Nat → Nat → Option (Nat → Tm → Prog (Nat × Tm))
  | 82, 0 => some lpL_ref8_Is_82_0
  | 82, 2 => some lpL_ref8_Is_82_2
  | 82, 6 => some lpL_ref8_Is_82_6
  | _, _ => none
noncomputable def cx_ref8_Is3 : Ctx := { tab := tab, spec := sp_ref8_Is, inl := inl, lps := lp_ref8_Is3, fuel := 40 }
theorem in_ref8_Is3 : InlOk Try.prog cx_ref8_Is3 := ⟨inl_ok, fun g fn c hg hb q hq p hp => by
  change lp_ref8_Is3 g q.1 = some p at hp
  change inl g = some fn at hg
  generalize hq1 : q.1 = b at hp
  unfold lp_ref8_Is3 at hp
  split at hp
  · cases hp; exact lps_case (inl := inl) hg hb hq hq1 (by kernel_rfl) (by kernel_rfl) sndL_ref8_Is_82_0
  · cases hp; exact lps_case (inl := inl) hg hb hq hq1 (by kernel_rfl) (by kernel_rfl) sndL_ref8_Is_82_2
  · cases hp; exact lps_case (inl := inl) hg hb hq hq1 (by kernel_rfl) (by kernel_rfl) sndL_ref8_Is_82_6
  · cases hp⟩
theorem cal_ref8_Is3 (g : Nat) : SoundA Try.prog g (evF cx_ref8_Is3 keeps 8 g) := evF_sound (tabOk_of tab_ok) (cmpsOk_of tab_ok cmps_ok) mixed in_ref8_Is3 hsp_ref8_Is keeps 8 g
noncomputable def F_ref8_Is_82_4 (base : Nat) : Tm → Prog (Nat × Tm) := evC cx_ref8_Is3 (evF cx_ref8_Is3 keeps 8) ⟨82, 123, keeps 82, base⟩ 4 (bodyX 82 4)
def s_ref8_Is_82_4_0 : StS := ⟨[(1, .ptr 0 0), (5, .int .i64)], [(0, .box [.sl (.int .i64), .sl (.int .i64), .int .i64, .sl tC])], 1⟩
def x_ref8_Is_82_4_0_0 : StS := ⟨[(2, .undef)], [], 0⟩
def x_ref8_Is_82_4_0_1 : StS := ⟨[(2, .bool)], [], 0⟩
noncomputable def st_ref8_Is_82_4_0 (s5 : Int) (b0 : (List Int)) (b0_1 : (List Int)) (b0_2 : Int) (b0_3 : (List C)) : Option ((Int × (List Int) × (List Int) × Int × (List C)) ⊕ (Unit ⊕ Bool)) :=
  bif decide (s5 < (↑b0_3.length : Int)) then
 bif decide (0 ≤ s5) then
 optC b0_3[s5.toNat]? none fun d10 ↦
 optC (G_ref8_in (d10.1, 41, ())) none fun d11 ↦
 bif !d11 then some (Sum.inr (Sum.inr false))
 else
 bif decide ((↑(List.length d10.2) : Int) < 1) then some (Sum.inr (Sum.inr false))
 else
 bif decide ((↑(List.length d10.2) : Int) > 60) then some (Sum.inr (Sum.inr false))
 else
 bif decide (0 ≤ Go.IntKind.i64.wrap ((↑(List.length d10.2) : Int) - 1)) then
 optC d10.2[(Go.IntKind.i64.wrap ((↑(List.length d10.2) : Int) - 1)).toNat]? none fun d12 ↦
 bif d12.1 != 14 then some (Sum.inr (Sum.inr false))
 else
 optC (L_ref8_Is_82_6_0 (s5, (↑(List.length d10.2) : Int), 0, b0, b0_1, b0_2, b0_3, d10)) none fun d13 ↦
 Sum.elim (fun e14 ↦ some (Sum.inl (Go.IntKind.i64.wrap (e14.1 + 1), e14.2.1, e14.2.2.1, e14.2.2.2.1, e14.2.2.2.2)))
 (fun e14 ↦ some (Sum.inr (Sum.inr e14.1))) d13
 else none
 else none
 else some (Sum.inr (Sum.inl PUnit.unit))
theorem rn_ref8_Is_82_4_0 (s5 : Int) (b0 : (List Int)) (b0_1 : (List Int)) (b0_2 : Int) (b0_3 : (List C)) : rdX cx_ref8_Is3 keeps 8 ⟨82, 123, keeps 82, 0⟩ 4 (bodyX 82 4) 0 kp_ref8_Is_82_4 (sT s_ref8_Is_82_4_0 (((), s5, ()), ((b0, b0_1, b0_2, b0_3, ()), ()))) (sH s_ref8_Is_82_4_0 (((), s5, ()), ((b0, b0_1, b0_2, b0_3, ()), ()))) (rdO (fun T h => (rdS s_ref8_Is_82_4_0 T h).map fn_73_6) (getOr (getE 6 x_ref8_Is_82_4_0_0 (fun (d : ((Unit × Unit) × Unit)) => (() : Unit))) (getE 1 x_ref8_Is_82_4_0_1 (fun (d : ((Bool × Unit) × Unit)) => ((d.1.1) : Bool))))) = st_ref8_Is_82_4_0 s5 b0 b0_1 b0_2 b0_3 := by kernel_rfl
noncomputable def L_ref8_Is_82_4_0 (x : (Int × (List Int) × (List Int) × Int × (List C))) : Option (Unit ⊕ Bool) := iterO (fun x => st_ref8_Is_82_4_0 x.1 x.2.1 x.2.2.1 x.2.2.2.1 x.2.2.2.2) FUEL x
noncomputable def q_ref8_Is_82_4 : Nat → Tm → Prog (Nat × Tm) := (varP 0 (fun T h => (rdS s_ref8_Is_82_4_0 T h).map fn_73_6) L_ref8_Is_82_4_0 (fun y => .alt y (altE 6 x_ref8_Is_82_4_0_0 (fun (x : Unit) => ((((), ()), ()) : ((Unit × Unit) × Unit)))) (altE 1 x_ref8_Is_82_4_0_1 (fun (x : Bool) => (((x, ()), ()) : ((Bool × Unit) × Unit))))) (fun _ _ => .fail))
theorem ok_ref8_Is_82_4 : VarOk kp_ref8_Is_82_4 F_ref8_Is_82_4 q_ref8_Is_82_4 := (varX_ok (s := s_ref8_Is_82_4_0) (un := fn_73_4) (by rfl) (fun _ => rfl) (getOr_ok (getE_ok (s := x_ref8_Is_82_4_0_0) (un := (fun (x : Unit) => ((((), ()), ()) : ((Unit × Unit) × Unit)))) (by rfl) (fun _ => rfl)) (getE_ok (s := x_ref8_Is_82_4_0_1) (un := (fun (x : Bool) => (((x, ()), ()) : ((Bool × Unit) × Unit)))) (by rfl) (fun _ => rfl))) (step := fun x => st_ref8_Is_82_4_0 x.1 x.2.1 x.2.2.1 x.2.2.2.1 x.2.2.2.2) (fun x => rn_ref8_Is_82_4_0 x.1 x.2.1 x.2.2.1 x.2.2.2.1 x.2.2.2.2) (fun _ _ e => ⟨_, e⟩) (altOr_ok (altE_ok 6 x_ref8_Is_82_4_0_0 (fun (x : Unit) => ((((), ()), ()) : ((Unit × Unit) × Unit)))) (altE_ok 1 x_ref8_Is_82_4_0_1 (fun (x : Bool) => (((x, ()), ()) : ((Bool × Unit) × Unit))))) (VarOk.fail _ _))
noncomputable def lpI_ref8_Is_82_4 (base : Nat) (T : Tm) : Prog (Nat × Tm) := .norm base (kp_ref8_Is_82_4 0) T (q_ref8_Is_82_4 base)
theorem sndI_ref8_Is_82_4 : SoundC Try.prog 123 (.loop (bodyX 82 4)) lpI_ref8_Is_82_4 := loopK_sound (cx := cx_ref8_Is3) (cal := evF cx_ref8_Is3 keeps 8) (kp := keeps 82) (tabOk_of tab_ok) (cmpsOk_of tab_ok cmps_ok) cal_ref8_Is3 mixed (hl_of (g := 82) (b := 4) in_ref8_Is3 (by kernel_rfl) (by kernel_rfl)) ok_ref8_Is_82_4
noncomputable def lpL_ref8_Is_82_4 : Nat → Tm → Prog (Nat × Tm) := lpI_ref8_Is_82_4
theorem sndL_ref8_Is_82_4 : SoundC Try.prog 123 (.loop (bodyX 82 4)) lpL_ref8_Is_82_4 := sndI_ref8_Is_82_4
noncomputable def lp_ref8_Is : Nat → Nat → Option (Nat → Tm → Prog (Nat × Tm))
  | 82, 0 => some lpL_ref8_Is_82_0
  | 82, 2 => some lpL_ref8_Is_82_2
  | 82, 6 => some lpL_ref8_Is_82_6
  | 82, 4 => some lpL_ref8_Is_82_4
  | _, _ => none
noncomputable def cx_ref8_Is : Ctx := { tab := tab, spec := sp_ref8_Is, inl := inl, lps := lp_ref8_Is, fuel := 40 }
theorem in_ref8_Is : InlOk Try.prog cx_ref8_Is := ⟨inl_ok, fun g fn c hg hb q hq p hp => by
  change lp_ref8_Is g q.1 = some p at hp
  change inl g = some fn at hg
  generalize hq1 : q.1 = b at hp
  unfold lp_ref8_Is at hp
  split at hp
  · cases hp; exact lps_case (inl := inl) hg hb hq hq1 (by kernel_rfl) (by kernel_rfl) sndL_ref8_Is_82_0
  · cases hp; exact lps_case (inl := inl) hg hb hq hq1 (by kernel_rfl) (by kernel_rfl) sndL_ref8_Is_82_2
  · cases hp; exact lps_case (inl := inl) hg hb hq hq1 (by kernel_rfl) (by kernel_rfl) sndL_ref8_Is_82_6
  · cases hp; exact lps_case (inl := inl) hg hb hq hq1 (by kernel_rfl) (by kernel_rfl) sndL_ref8_Is_82_4
  · cases hp⟩
theorem cal_ref8_Is (g : Nat) : SoundA Try.prog g (evF cx_ref8_Is keeps 8 g) := evF_sound (tabOk_of tab_ok) (cmpsOk_of tab_ok cmps_ok) mixed in_ref8_Is hsp_ref8_Is keeps 8 g
noncomputable def g_ref8_Is (a0 : U) : Option Bool :=
  bif decide ((↑(List.length a0.1) : Int) > 6) then some false
 else
 bif decide ((↑(List.length a0.2.1) : Int) > 3) then some false
 else
 optC (G_ref8_in (a0.2.2.1, 7, ())) none fun d6 ↦
 bif !d6 then some false
 else
 bif decide ((↑(List.length a0.2.2.2) : Int) < 1) then some false
 else
 bif decide ((↑(List.length a0.2.2.2) : Int) > 4) then some false
 else
 optC (L_ref8_Is_82_0_0 (0, a0)) none fun d7 ↦
 Sum.elim
 (fun e8 ↦
 optC (L_ref8_Is_82_2_0 (0, e8)) none fun d9 ↦
 Sum.elim (fun e10 ↦ optC (L_ref8_Is_82_4_0 (0, e10)) none fun d11 ↦ Sum.elim (fun e12 ↦ some true) (fun e12 ↦ some e12) d11)
 (fun e10 ↦ some e10.1) d9)
 (fun e8 ↦ some e8.1) d7
theorem raw_ref8_Is (a0 : U) : evGX cx_ref8_Is keeps 8 82 ash_ref8_Is (.dat .bool) ((a0, ()) : (U × Unit)) = g_ref8_Is a0 := by kernel_rfl
noncomputable def G_ref8_Is (x : (U × Unit)) : Option Bool := g_ref8_Is x.1
noncomputable def con_ref8_Is : List AV → Prog AV := conP true ash_ref8_Is (.dat .bool) G_ref8_Is
theorem snd_ref8_Is : SoundA Try.prog 82 con_ref8_Is := conP_sound (cal_ref8_Is 82) true (by rfl) (by rfl) (fun x r e => (evGX_eq _ _ _ _ _ _ _).trans ((raw_ref8_Is x.1).trans e)) (.inl rfl)
end Go.Proofs.Ytbdcblpjemmipaa.Ex

namespace Go.Proofs.Ytbdcblpjemmipaa.Ex
set_option maxRecDepth 100000
set_option maxHeartbeats 2000000
set_option linter.unusedVariables false
set_option linter.unusedSimpArgs false
noncomputable def bd_ref8_Is_82_0_0 (b0_1 : (List Int)) (b0_2 : Int) (b0_3 : (List C)) (b0 : (List Int)) (i : Nat)  (d : Int) : Option (Unit ⊕ (((List Int) × (List Int) × Int × (List C)) ⊕ (Bool × (List Int) × (List Int) × Int × (List C)))) :=
  optC (G_ref1_Fits (d, ())) (none) fun d11 ↦
   bif !d11 then
   some (Sum.inr (Sum.inr (false, b0, b0_1, b0_2, b0_3)))
 else some (Sum.inl ())
noncomputable def fn_ref8_Is_82_0_0 (b0_1 : (List Int)) (b0_2 : Int) (b0_3 : (List C)) (b0 : (List Int))  : Option (((List Int) × (List Int) × Int × (List C)) ⊕ (Bool × (List Int) × (List Int) × Int × (List C))) :=
  some (Sum.inl (b0, b0_1, b0_2, b0_3))
noncomputable abbrev rx_ref8_Is_82_0_0 (b0_1 : (List Int)) (b0_2 : Int) (b0_3 : (List C)) (b0 : (List Int)) (i : Nat) (s : Unit) : (Int × (List Int) × (List Int) × Int × (List C)) := ((i : Int), b0, b0_1, b0_2, b0_3)
noncomputable def rv_ref8_Is_82_0_0 (b0_1 : (List Int)) (b0_2 : Int) (b0_3 : (List C)) (b0 : (List Int)) (s : Unit) : Option (((List Int) × (List Int) × Int × (List C)) ⊕ (Bool × (List Int) × (List Int) × Int × (List C))) := rangeO (fun i s d => bd_ref8_Is_82_0_0 b0_1 b0_2 b0_3 b0 i  d) (fun s => fn_ref8_Is_82_0_0 b0_1 b0_2 b0_3 b0 ) 0 b0 s
theorem rg_ref8_Is_82_0_0 (b0_1 : (List Int)) (b0_2 : Int) (b0_3 : (List C)) (b0 : (List Int)) (s : Unit) (hl : b0.length < 9223372036854775807) : L_ref8_Is_82_0_0 (0, b0, b0_1, b0_2, b0_3) = rv_ref8_Is_82_0_0 b0_1 b0_2 b0_3 b0 s := by
  unfold L_ref8_Is_82_0_0 rv_ref8_Is_82_0_0
  refine iterO_range0 b0 (rx_ref8_Is_82_0_0 b0_1 b0_2 b0_3 b0) _ _ ?_ ?_ s (by unfold FUEL; omega)
  · intro i s d hi hd
    have e1 : decide ((i : Int) < (b0.length : Int)) = true := decide_eq_true (by omega)
    have e2 : decide (0 ≤ (i : Int)) = true := decide_eq_true (by omega)
    have e3 : Int.toNat (i : Int) = i := Int.toNat_natCast i
    have e4 := wrap_next hi (Nat.le_of_lt hl)
    show st_ref8_Is_82_0_0 ((i : Int)) (b0) (b0_1) (b0_2) (b0_3) = upd _ (bd_ref8_Is_82_0_0 b0_1 b0_2 b0_3 b0 i  d)
    unfold st_ref8_Is_82_0_0 bd_ref8_Is_82_0_0
    simp only [e1, e2, e3, e4, hd, cond_true, cond_false, optC_some, upd_cond, upd_optC, upd_elim, upd_inl, upd_inr, upd_none]
  · intro s
    have e1 : decide ((b0.length : Int) < (b0.length : Int)) = false := decide_eq_false (by omega)
    show st_ref8_Is_82_0_0 ((b0.length : Int)) (b0) (b0_1) (b0_2) (b0_3) = _
    unfold st_ref8_Is_82_0_0 fn_ref8_Is_82_0_0
    rw [e1]
    rfl
noncomputable def bd_ref8_Is_82_2_0 (b0 : (List Int)) (b0_2 : Int) (b0_3 : (List C)) (b0_1 : (List Int)) (i : Nat)  (d : Int) : Option (Unit ⊕ (((List Int) × (List Int) × Int × (List C)) ⊕ (Bool × (List Int) × (List Int) × Int × (List C)))) :=
  bif decide (d < 1) then
   some (Sum.inr (Sum.inr (false, b0, b0_1, b0_2, b0_3)))
 else bif decide (d > 16) then
   some (Sum.inr (Sum.inr (false, b0, b0_1, b0_2, b0_3)))
 else some (Sum.inl ())
noncomputable def fn_ref8_Is_82_2_0 (b0 : (List Int)) (b0_2 : Int) (b0_3 : (List C)) (b0_1 : (List Int))  : Option (((List Int) × (List Int) × Int × (List C)) ⊕ (Bool × (List Int) × (List Int) × Int × (List C))) :=
  some (Sum.inl (b0, b0_1, b0_2, b0_3))
noncomputable abbrev rx_ref8_Is_82_2_0 (b0 : (List Int)) (b0_2 : Int) (b0_3 : (List C)) (b0_1 : (List Int)) (i : Nat) (s : Unit) : (Int × (List Int) × (List Int) × Int × (List C)) := ((i : Int), b0, b0_1, b0_2, b0_3)
noncomputable def rv_ref8_Is_82_2_0 (b0 : (List Int)) (b0_2 : Int) (b0_3 : (List C)) (b0_1 : (List Int)) (s : Unit) : Option (((List Int) × (List Int) × Int × (List C)) ⊕ (Bool × (List Int) × (List Int) × Int × (List C))) := rangeO (fun i s d => bd_ref8_Is_82_2_0 b0 b0_2 b0_3 b0_1 i  d) (fun s => fn_ref8_Is_82_2_0 b0 b0_2 b0_3 b0_1 ) 0 b0_1 s
theorem rg_ref8_Is_82_2_0 (b0 : (List Int)) (b0_2 : Int) (b0_3 : (List C)) (b0_1 : (List Int)) (s : Unit) (hl : b0_1.length < 9223372036854775807) : L_ref8_Is_82_2_0 (0, b0, b0_1, b0_2, b0_3) = rv_ref8_Is_82_2_0 b0 b0_2 b0_3 b0_1 s := by
  unfold L_ref8_Is_82_2_0 rv_ref8_Is_82_2_0
  refine iterO_range0 b0_1 (rx_ref8_Is_82_2_0 b0 b0_2 b0_3 b0_1) _ _ ?_ ?_ s (by unfold FUEL; omega)
  · intro i s d hi hd
    have e1 : decide ((i : Int) < (b0_1.length : Int)) = true := decide_eq_true (by omega)
    have e2 : decide (0 ≤ (i : Int)) = true := decide_eq_true (by omega)
    have e3 : Int.toNat (i : Int) = i := Int.toNat_natCast i
    have e4 := wrap_next hi (Nat.le_of_lt hl)
    show st_ref8_Is_82_2_0 ((i : Int)) (b0) (b0_1) (b0_2) (b0_3) = upd _ (bd_ref8_Is_82_2_0 b0 b0_2 b0_3 b0_1 i  d)
    unfold st_ref8_Is_82_2_0 bd_ref8_Is_82_2_0
    simp only [e1, e2, e3, e4, hd, cond_true, cond_false, optC_some, upd_cond, upd_optC, upd_elim, upd_inl, upd_inr, upd_none]
  · intro s
    have e1 : decide ((b0_1.length : Int) < (b0_1.length : Int)) = false := decide_eq_false (by omega)
    show st_ref8_Is_82_2_0 ((b0_1.length : Int)) (b0) (b0_1) (b0_2) (b0_3) = _
    unfold st_ref8_Is_82_2_0 fn_ref8_Is_82_2_0
    rw [e1]
    rfl
noncomputable def bd_ref8_Is_82_6_0 (s5 : Int) (b0 : (List Int)) (b0_1 : (List Int)) (b0_2 : Int) (b0_3 : (List C)) (b1 : Int) (b1_1 : (List A)) (i : Nat)  (d : A) : Option (Unit ⊕ ((Int × (List Int) × (List Int) × Int × (List C)) ⊕ (Bool × Int × (List Int) × (List Int) × Int × (List C)))) :=
  optC (G_ref8_act ((b0, b0_1, b0_2, b0_3), (b1, b1_1), d, ())) (none) fun d15 ↦
   bif !d15 then
   some (Sum.inr (Sum.inr (false, s5, b0, b0_1, b0_2, b0_3)))
 else some (Sum.inl ())
noncomputable def fn_ref8_Is_82_6_0 (s5 : Int) (b0 : (List Int)) (b0_1 : (List Int)) (b0_2 : Int) (b0_3 : (List C)) (b1 : Int) (b1_1 : (List A))  : Option ((Int × (List Int) × (List Int) × Int × (List C)) ⊕ (Bool × Int × (List Int) × (List Int) × Int × (List C))) :=
  some (Sum.inl (s5, b0, b0_1, b0_2, b0_3))
noncomputable abbrev rx_ref8_Is_82_6_0 (s5 : Int) (b0 : (List Int)) (b0_1 : (List Int)) (b0_2 : Int) (b0_3 : (List C)) (b1 : Int) (b1_1 : (List A)) (i : Nat) (s : Unit) : (Int × Int × Int × (List Int) × (List Int) × Int × (List C) × Int × (List A)) := (s5, (b1_1.length : Int), (i : Int), b0, b0_1, b0_2, b0_3, b1, b1_1)
noncomputable def rv_ref8_Is_82_6_0 (s5 : Int) (b0 : (List Int)) (b0_1 : (List Int)) (b0_2 : Int) (b0_3 : (List C)) (b1 : Int) (b1_1 : (List A)) (s : Unit) : Option ((Int × (List Int) × (List Int) × Int × (List C)) ⊕ (Bool × Int × (List Int) × (List Int) × Int × (List C))) := rangeO (fun i s d => bd_ref8_Is_82_6_0 s5 b0 b0_1 b0_2 b0_3 b1 b1_1 i  d) (fun s => fn_ref8_Is_82_6_0 s5 b0 b0_1 b0_2 b0_3 b1 b1_1 ) 0 b1_1 s
theorem rg_ref8_Is_82_6_0 (s5 : Int) (b0 : (List Int)) (b0_1 : (List Int)) (b0_2 : Int) (b0_3 : (List C)) (b1 : Int) (b1_1 : (List A)) (s : Unit) (hl : b1_1.length < 9223372036854775807) : L_ref8_Is_82_6_0 (s5, (b1_1.length : Int), 0, b0, b0_1, b0_2, b0_3, b1, b1_1) = rv_ref8_Is_82_6_0 s5 b0 b0_1 b0_2 b0_3 b1 b1_1 s := by
  unfold L_ref8_Is_82_6_0 rv_ref8_Is_82_6_0
  refine iterO_range0 b1_1 (rx_ref8_Is_82_6_0 s5 b0 b0_1 b0_2 b0_3 b1 b1_1) _ _ ?_ ?_ s (by unfold FUEL; omega)
  · intro i s d hi hd
    have e1 : decide ((i : Int) < (b1_1.length : Int)) = true := decide_eq_true (by omega)
    have e2 : decide (0 ≤ (i : Int)) = true := decide_eq_true (by omega)
    have e3 : Int.toNat (i : Int) = i := Int.toNat_natCast i
    have e4 := wrap_next hi (Nat.le_of_lt hl)
    show st_ref8_Is_82_6_0 (s5) ((b1_1.length : Int)) ((i : Int)) (b0) (b0_1) (b0_2) (b0_3) (b1) (b1_1) = upd _ (bd_ref8_Is_82_6_0 s5 b0 b0_1 b0_2 b0_3 b1 b1_1 i  d)
    unfold st_ref8_Is_82_6_0 bd_ref8_Is_82_6_0
    simp only [e1, e2, e3, e4, hd, cond_true, cond_false, optC_some, upd_cond, upd_optC, upd_elim, upd_inl, upd_inr, upd_none]
  · intro s
    have e1 : decide ((b1_1.length : Int) < (b1_1.length : Int)) = false := decide_eq_false (by omega)
    show st_ref8_Is_82_6_0 (s5) ((b1_1.length : Int)) ((b1_1.length : Int)) (b0) (b0_1) (b0_2) (b0_3) (b1) (b1_1) = _
    unfold st_ref8_Is_82_6_0 fn_ref8_Is_82_6_0
    rw [e1]
    rfl
end Go.Proofs.Ytbdcblpjemmipaa.Ex

namespace Go.Proofs.Ytbdcblpjemmipaa.Ex
open Go.Proofs Go.Proofs.Ytbdcblpjemmipaa
set_option maxRecDepth 100000
set_option maxHeartbeats 2000000
set_option linter.unusedVariables false
set_option linter.unusedSimpArgs false
def ash_ref2_Is : List Sh := [.dat tI]
noncomputable def sp_ref2_Is : Nat → Option (List AV → Prog AV)
  | 50 => some (con_ref2_None)
  | 51 => some (con_ref1_Fits)
  | _ => none
theorem hsp_ref2_Is : ∀ g p, sp_ref2_Is g = some p → SoundA Try.prog g p := by
  intro g p h
  unfold sp_ref2_Is at h
  split at h
  · cases h; exact snd_ref2_None
  · cases h; exact snd_ref1_Fits
  · cases h
noncomputable def cx_ref2_Is : Ctx := { tab := tab, spec := sp_ref2_Is, inl := inl, lps := fun _ _ => none, fuel := 40 }
theorem in_ref2_Is : InlOk Try.prog cx_ref2_Is := ⟨inl_ok, fun _ _ _ _ _ _ _ _ h => nomatch h⟩
theorem cal_ref2_Is (g : Nat) : SoundA Try.prog g (evF cx_ref2_Is keeps 8 g) := evF_sound (tabOk_of tab_ok) (cmpsOk_of tab_ok cmps_ok) mixed in_ref2_Is hsp_ref2_Is keeps 8 g
noncomputable def g_ref2_Is (a0 : I) : Option Bool :=
  bif a0.1 == 1 && a0.2 == 0 then some true
 else
 bif decide (a0.1 ≤ a0.2) then
 optC (G_ref1_Fits (a0.1, ())) none fun d2 ↦ bif d2 then optC (G_ref1_Fits (a0.2, ())) none fun d3 ↦ some d3 else some false
 else some false
theorem raw_ref2_Is (a0 : I) : evGX cx_ref2_Is keeps 8 19 ash_ref2_Is (.dat .bool) ((a0, ()) : (I × Unit)) = g_ref2_Is a0 := by kernel_rfl
noncomputable def G_ref2_Is (x : (I × Unit)) : Option Bool := g_ref2_Is x.1
noncomputable def con_ref2_Is : List AV → Prog AV := conP true ash_ref2_Is (.dat .bool) G_ref2_Is
theorem snd_ref2_Is : SoundA Try.prog 19 con_ref2_Is := conP_sound (cal_ref2_Is 19) true (by rfl) (by rfl) (fun x r e => (evGX_eq _ _ _ _ _ _ _).trans ((raw_ref2_Is x.1).trans e)) (.inl rfl)
end Go.Proofs.Ytbdcblpjemmipaa.Ex

namespace Go.Proofs.Ytbdcblpjemmipaa.Ex
set_option maxRecDepth 100000
set_option linter.unusedVariables false
set_option linter.unusedSimpArgs false
theorem iterO_mono {X Y : Type} {step : X → Option (X ⊕ Y)} : ∀ (n m : Nat) (x : X) (y : Y), n ≤ m → iterO step n x = some y → iterO step m x = some y
  | 0, _, _, _, _, e => nomatch e
  | n + 1, m, x, y, h, e => by
    obtain ⟨m, rfl⟩ : ∃ k, m = k + 1 := ⟨m - 1, by omega⟩
    rw [iterO] at e ⊢
    cases hs : step x with
    | none => rw [hs] at e; cases e
    | some r =>
      rw [hs] at e
      cases r with
      | inl x' => exact iterO_mono n m x' y (by omega) e
      | inr y' => exact e
theorem n_ref1_Fits (n : Int) : g_ref1_Fits n = some (fitB n) := by
  unfold g_ref1_Fits fitB
  cases decide (n ≥ -2147483648) <;> rfl
theorem n_ref2_Is (x : I) : g_ref2_Is x = some (isB x) := by
  unfold g_ref2_Is G_ref1_Fits isB
  simp only [n_ref1_Fits, optC_some]
  cases (x.1 == 1 && x.2 == 0)
  · cases decide (x.1 ≤ x.2)
    · rfl
    · cases fitB x.1 <;> rfl
  · rfl
def inB (k n : Int) : Bool := decide (k ≥ 0) && decide (k < n)
theorem n_ref8_in (k n : Int) : g_ref8_in k n = some (inB k n) := by
  unfold g_ref8_in inB
  cases decide (k ≥ 0) <;> rfl
theorem us_0_1 : g_ref8_uses 0 1 = some false := by kernel_rfl
theorem us_0_2 : g_ref8_uses 0 2 = some false := by kernel_rfl
theorem us_0_3 : g_ref8_uses 0 3 = some false := by kernel_rfl
theorem us_0_4 : g_ref8_uses 0 4 = some false := by kernel_rfl
theorem us_1_1 : g_ref8_uses 1 1 = some true := by kernel_rfl
theorem us_1_2 : g_ref8_uses 1 2 = some false := by kernel_rfl
theorem us_1_3 : g_ref8_uses 1 3 = some false := by kernel_rfl
theorem us_1_4 : g_ref8_uses 1 4 = some false := by kernel_rfl
theorem us_2_1 : g_ref8_uses 2 1 = some true := by kernel_rfl
theorem us_2_2 : g_ref8_uses 2 2 = some true := by kernel_rfl
theorem us_2_3 : g_ref8_uses 2 3 = some false := by kernel_rfl
theorem us_2_4 : g_ref8_uses 2 4 = some false := by kernel_rfl
theorem us_3_1 : g_ref8_uses 3 1 = some true := by kernel_rfl
theorem us_3_2 : g_ref8_uses 3 2 = some false := by kernel_rfl
theorem us_3_3 : g_ref8_uses 3 3 = some false := by kernel_rfl
theorem us_3_4 : g_ref8_uses 3 4 = some false := by kernel_rfl
theorem us_4_1 : g_ref8_uses 4 1 = some true := by kernel_rfl
theorem us_4_2 : g_ref8_uses 4 2 = some true := by kernel_rfl
theorem us_4_3 : g_ref8_uses 4 3 = some true := by kernel_rfl
theorem us_4_4 : g_ref8_uses 4 4 = some false := by kernel_rfl
theorem us_5_1 : g_ref8_uses 5 1 = some true := by kernel_rfl
theorem us_5_2 : g_ref8_uses 5 2 = some false := by kernel_rfl
theorem us_5_3 : g_ref8_uses 5 3 = some false := by kernel_rfl
theorem us_5_4 : g_ref8_uses 5 4 = some true := by kernel_rfl
theorem us_6_1 : g_ref8_uses 6 1 = some false := by kernel_rfl
theorem us_6_2 : g_ref8_uses 6 2 = some true := by kernel_rfl
theorem us_6_3 : g_ref8_uses 6 3 = some false := by kernel_rfl
theorem us_6_4 : g_ref8_uses 6 4 = some true := by kernel_rfl
theorem us_7_1 : g_ref8_uses 7 1 = some true := by kernel_rfl
theorem us_7_2 : g_ref8_uses 7 2 = some true := by kernel_rfl
theorem us_7_3 : g_ref8_uses 7 3 = some false := by kernel_rfl
theorem us_7_4 : g_ref8_uses 7 4 = some true := by kernel_rfl
theorem us_8_1 : g_ref8_uses 8 1 = some false := by kernel_rfl
theorem us_8_2 : g_ref8_uses 8 2 = some true := by kernel_rfl
theorem us_8_3 : g_ref8_uses 8 3 = some true := by kernel_rfl
theorem us_8_4 : g_ref8_uses 8 4 = some true := by kernel_rfl
theorem us_9_1 : g_ref8_uses 9 1 = some false := by kernel_rfl
theorem us_9_2 : g_ref8_uses 9 2 = some false := by kernel_rfl
theorem us_9_3 : g_ref8_uses 9 3 = some false := by kernel_rfl
theorem us_9_4 : g_ref8_uses 9 4 = some true := by kernel_rfl
theorem us_10_1 : g_ref8_uses 10 1 = some false := by kernel_rfl
theorem us_10_2 : g_ref8_uses 10 2 = some false := by kernel_rfl
theorem us_10_3 : g_ref8_uses 10 3 = some false := by kernel_rfl
theorem us_10_4 : g_ref8_uses 10 4 = some true := by kernel_rfl
theorem us_11_1 : g_ref8_uses 11 1 = some false := by kernel_rfl
theorem us_11_2 : g_ref8_uses 11 2 = some true := by kernel_rfl
theorem us_11_3 : g_ref8_uses 11 3 = some true := by kernel_rfl
theorem us_11_4 : g_ref8_uses 11 4 = some false := by kernel_rfl
theorem us_12_1 : g_ref8_uses 12 1 = some false := by kernel_rfl
theorem us_12_2 : g_ref8_uses 12 2 = some false := by kernel_rfl
theorem us_12_3 : g_ref8_uses 12 3 = some false := by kernel_rfl
theorem us_12_4 : g_ref8_uses 12 4 = some false := by kernel_rfl
theorem us_13_1 : g_ref8_uses 13 1 = some false := by kernel_rfl
theorem us_13_2 : g_ref8_uses 13 2 = some false := by kernel_rfl
theorem us_13_3 : g_ref8_uses 13 3 = some false := by kernel_rfl
theorem us_13_4 : g_ref8_uses 13 4 = some false := by kernel_rfl
theorem us_14_1 : g_ref8_uses 14 1 = some false := by kernel_rfl
theorem us_14_2 : g_ref8_uses 14 2 = some false := by kernel_rfl
theorem us_14_3 : g_ref8_uses 14 3 = some false := by kernel_rfl
theorem us_14_4 : g_ref8_uses 14 4 = some false := by kernel_rfl
def usesB (k f : Int) : Bool :=
  if f = 1 then k == 1 || k == 2 || k == 3 || k == 4 || k == 5 || k == 7
  else if f = 2 then k == 2 || k == 4 || k == 6 || k == 7 || k == 8 || k == 11
  else if f = 3 then k == 4 || k == 8 || k == 11
  else k == 5 || k == 6 || k == 7 || k == 8 || k == 9 || k == 10
theorem n_ref8_uses (k f : Int) (hk : 0 ≤ k ∧ k ≤ 14) (hf : 1 ≤ f ∧ f ≤ 4) : g_ref8_uses k f = some (usesB k f) := by
  have h1 : k = 0 ∨ k = 1 ∨ k = 2 ∨ k = 3 ∨ k = 4 ∨ k = 5 ∨ k = 6 ∨ k = 7 ∨ k = 8 ∨ k = 9 ∨ k = 10 ∨ k = 11 ∨ k = 12 ∨ k = 13 ∨ k = 14 := by omega
  have h2 : f = 1 ∨ f = 2 ∨ f = 3 ∨ f = 4 := by omega
  rcases h1 with rfl | rfl | rfl | rfl | rfl | rfl | rfl | rfl | rfl | rfl | rfl | rfl | rfl | rfl | rfl <;> rcases h2 with rfl | rfl | rfl | rfl
  · exact us_0_1
  · exact us_0_2
  · exact us_0_3
  · exact us_0_4
  · exact us_1_1
  · exact us_1_2
  · exact us_1_3
  · exact us_1_4
  · exact us_2_1
  · exact us_2_2
  · exact us_2_3
  · exact us_2_4
  · exact us_3_1
  · exact us_3_2
  · exact us_3_3
  · exact us_3_4
  · exact us_4_1
  · exact us_4_2
  · exact us_4_3
  · exact us_4_4
  · exact us_5_1
  · exact us_5_2
  · exact us_5_3
  · exact us_5_4
  · exact us_6_1
  · exact us_6_2
  · exact us_6_3
  · exact us_6_4
  · exact us_7_1
  · exact us_7_2
  · exact us_7_3
  · exact us_7_4
  · exact us_8_1
  · exact us_8_2
  · exact us_8_3
  · exact us_8_4
  · exact us_9_1
  · exact us_9_2
  · exact us_9_3
  · exact us_9_4
  · exact us_10_1
  · exact us_10_2
  · exact us_10_3
  · exact us_10_4
  · exact us_11_1
  · exact us_11_2
  · exact us_11_3
  · exact us_11_4
  · exact us_12_1
  · exact us_12_2
  · exact us_12_3
  · exact us_12_4
  · exact us_13_1
  · exact us_13_2
  · exact us_13_3
  · exact us_13_4
  · exact us_14_1
  · exact us_14_2
  · exact us_14_3
  · exact us_14_4
def hasV (k f v bd : Int) : Bool := if usesB k f = true then inB v bd else v == 0
theorem n_ref8_has (k f v bd : Int) (hk : 0 ≤ k ∧ k ≤ 14) (hf : 1 ≤ f ∧ f ≤ 4) : g_ref8_has k f v bd = some (hasV k f v bd) := by
  unfold g_ref8_has G_ref8_uses G_ref8_in hasV
  simp only [n_ref8_uses k f hk hf, n_ref8_in, optC_some]
  cases usesB k f <;> rfl
def gBd (u : U) (k : Int) : Int := if k = 5 ∨ k = 6 then (u.1.length : Int) else if k = 7 ∨ k = 8 then (u.2.1.length : Int) else u.2.2.1
structure actOK (u : U) (c : C) (a : A) : Prop where
  k1 : 1 ≤ a.1
  k2 : a.1 ≤ 14
  n : fitB a.2.2.2.2.2.1 = true
  n0 : a.1 ≠ 1 → a.2.2.2.2.2.1 = 0
  nx : 0 ≤ a.2.2.2.2.2.2.2.1 ∧ a.2.2.2.2.2.2.2.1 < (c.2.length : Int)
  el : 0 ≤ a.2.2.2.2.2.2.2.2 ∧ a.2.2.2.2.2.2.2.2 < (c.2.length : Int)
  el0 : a.1 ≠ 11 → a.2.2.2.2.2.2.2.2 = 0
  op4 : a.1 = 4 → 1 ≤ a.2.2.2.2.2.2.1 ∧ a.2.2.2.2.2.2.1 ≤ 5
  op11 : a.1 = 11 → 1 ≤ a.2.2.2.2.2.2.1 ∧ a.2.2.2.2.2.2.1 ≤ 6
  op0 : a.1 ≠ 4 → a.1 ≠ 11 → a.2.2.2.2.2.2.1 = 0
  h1 : hasV a.1 1 a.2.1 c.1 = true
  h2 : hasV a.1 2 a.2.2.1 c.1 = true
  h3 : hasV a.1 3 a.2.2.2.1 c.1 = true
  h4 : hasV a.1 4 a.2.2.2.2.1 (gBd u a.1) = true
theorem act_1 (a0 : U) (a1 : C) (T X Y G N op nx el : Int) : g_ref8_act a0 a1 (1, T, X, Y, G, N, op, nx, el) =
  optC (G_ref1_Fits (N, ())) (none) fun d4 ↦
   bif !d4 then
   some false
 else optC (G_ref8_in (nx, (↑(List.length a1.2) : Int), ())) (none) fun d5 ↦
   bif !d5 then
   some false
 else optC (G_ref8_in (el, (↑(List.length a1.2) : Int), ())) (none) fun d6 ↦
   bif !d6 then
   some false
 else bif el != 0 then
   some false
 else bif op != 0 then
   some false
 else optC (G_ref8_has (1, 1, T, a1.1, ())) (none) fun d7 ↦
   bif d7 then
   optC (G_ref8_has (1, 2, X, 0, ())) (none) fun d8 ↦
   bif d8 then
   optC (G_ref8_has (1, 3, Y, 0, ())) (none) fun d9 ↦
   bif d9 then
   optC (G_ref8_has (1, 4, G, 0, ())) (none) fun d10 ↦
   some d10
 else some false
 else some false
 else some false := by kernel_rfl
theorem act_2 (a0 : U) (a1 : C) (T X Y G N op nx el : Int) : g_ref8_act a0 a1 (2, T, X, Y, G, N, op, nx, el) =
  bif N != 0 then
   some false
 else optC (G_ref1_Fits (N, ())) (none) fun d4 ↦
   bif !d4 then
   some false
 else optC (G_ref8_in (nx, (↑(List.length a1.2) : Int), ())) (none) fun d5 ↦
   bif !d5 then
   some false
 else optC (G_ref8_in (el, (↑(List.length a1.2) : Int), ())) (none) fun d6 ↦
   bif !d6 then
   some false
 else bif el != 0 then
   some false
 else bif op != 0 then
   some false
 else optC (G_ref8_has (2, 1, T, a1.1, ())) (none) fun d7 ↦
   bif d7 then
   optC (G_ref8_has (2, 2, X, a1.1, ())) (none) fun d8 ↦
   bif d8 then
   optC (G_ref8_has (2, 3, Y, 0, ())) (none) fun d9 ↦
   bif d9 then
   optC (G_ref8_has (2, 4, G, 0, ())) (none) fun d10 ↦
   some d10
 else some false
 else some false
 else some false := by kernel_rfl
theorem act_3 (a0 : U) (a1 : C) (T X Y G N op nx el : Int) : g_ref8_act a0 a1 (3, T, X, Y, G, N, op, nx, el) =
  bif N != 0 then
   some false
 else optC (G_ref1_Fits (N, ())) (none) fun d4 ↦
   bif !d4 then
   some false
 else optC (G_ref8_in (nx, (↑(List.length a1.2) : Int), ())) (none) fun d5 ↦
   bif !d5 then
   some false
 else optC (G_ref8_in (el, (↑(List.length a1.2) : Int), ())) (none) fun d6 ↦
   bif !d6 then
   some false
 else bif el != 0 then
   some false
 else bif op != 0 then
   some false
 else optC (G_ref8_has (3, 1, T, a1.1, ())) (none) fun d7 ↦
   bif d7 then
   optC (G_ref8_has (3, 2, X, 0, ())) (none) fun d8 ↦
   bif d8 then
   optC (G_ref8_has (3, 3, Y, 0, ())) (none) fun d9 ↦
   bif d9 then
   optC (G_ref8_has (3, 4, G, 0, ())) (none) fun d10 ↦
   some d10
 else some false
 else some false
 else some false := by kernel_rfl
theorem act_4 (a0 : U) (a1 : C) (T X Y G N op nx el : Int) : g_ref8_act a0 a1 (4, T, X, Y, G, N, op, nx, el) =
  bif N != 0 then
   some false
 else optC (G_ref1_Fits (N, ())) (none) fun d4 ↦
   bif !d4 then
   some false
 else optC (G_ref8_in (nx, (↑(List.length a1.2) : Int), ())) (none) fun d5 ↦
   bif !d5 then
   some false
 else optC (G_ref8_in (el, (↑(List.length a1.2) : Int), ())) (none) fun d6 ↦
   bif !d6 then
   some false
 else bif el != 0 then
   some false
 else bif decide (op < 1) then
   some false
 else bif decide (op ≥ 6) then
   some false
 else optC (G_ref8_has (4, 1, T, a1.1, ())) (none) fun d7 ↦
   bif d7 then
   optC (G_ref8_has (4, 2, X, a1.1, ())) (none) fun d8 ↦
   bif d8 then
   optC (G_ref8_has (4, 3, Y, a1.1, ())) (none) fun d9 ↦
   bif d9 then
   optC (G_ref8_has (4, 4, G, 0, ())) (none) fun d10 ↦
   some d10
 else some false
 else some false
 else some false := by kernel_rfl
theorem act_5 (a0 : U) (a1 : C) (T X Y G N op nx el : Int) : g_ref8_act a0 a1 (5, T, X, Y, G, N, op, nx, el) =
  bif N != 0 then
   some false
 else optC (G_ref1_Fits (N, ())) (none) fun d4 ↦
   bif !d4 then
   some false
 else optC (G_ref8_in (nx, (↑(List.length a1.2) : Int), ())) (none) fun d5 ↦
   bif !d5 then
   some false
 else optC (G_ref8_in (el, (↑(List.length a1.2) : Int), ())) (none) fun d6 ↦
   bif !d6 then
   some false
 else bif el != 0 then
   some false
 else bif op != 0 then
   some false
 else optC (G_ref8_has (5, 1, T, a1.1, ())) (none) fun d7 ↦
   bif d7 then
   optC (G_ref8_has (5, 2, X, 0, ())) (none) fun d8 ↦
   bif d8 then
   optC (G_ref8_has (5, 3, Y, 0, ())) (none) fun d9 ↦
   bif d9 then
   optC (G_ref8_has (5, 4, G, (↑(List.length a0.1) : Int), ())) (none) fun d10 ↦
   some d10
 else some false
 else some false
 else some false := by kernel_rfl
theorem act_6 (a0 : U) (a1 : C) (T X Y G N op nx el : Int) : g_ref8_act a0 a1 (6, T, X, Y, G, N, op, nx, el) =
  bif N != 0 then
   some false
 else optC (G_ref1_Fits (N, ())) (none) fun d4 ↦
   bif !d4 then
   some false
 else optC (G_ref8_in (nx, (↑(List.length a1.2) : Int), ())) (none) fun d5 ↦
   bif !d5 then
   some false
 else optC (G_ref8_in (el, (↑(List.length a1.2) : Int), ())) (none) fun d6 ↦
   bif !d6 then
   some false
 else bif el != 0 then
   some false
 else bif op != 0 then
   some false
 else optC (G_ref8_has (6, 1, T, 0, ())) (none) fun d7 ↦
   bif d7 then
   optC (G_ref8_has (6, 2, X, a1.1, ())) (none) fun d8 ↦
   bif d8 then
   optC (G_ref8_has (6, 3, Y, 0, ())) (none) fun d9 ↦
   bif d9 then
   optC (G_ref8_has (6, 4, G, (↑(List.length a0.1) : Int), ())) (none) fun d10 ↦
   some d10
 else some false
 else some false
 else some false := by kernel_rfl
theorem act_7 (a0 : U) (a1 : C) (T X Y G N op nx el : Int) : g_ref8_act a0 a1 (7, T, X, Y, G, N, op, nx, el) =
  bif N != 0 then
   some false
 else optC (G_ref1_Fits (N, ())) (none) fun d4 ↦
   bif !d4 then
   some false
 else optC (G_ref8_in (nx, (↑(List.length a1.2) : Int), ())) (none) fun d5 ↦
   bif !d5 then
   some false
 else optC (G_ref8_in (el, (↑(List.length a1.2) : Int), ())) (none) fun d6 ↦
   bif !d6 then
   some false
 else bif el != 0 then
   some false
 else bif op != 0 then
   some false
 else optC (G_ref8_has (7, 1, T, a1.1, ())) (none) fun d7 ↦
   bif d7 then
   optC (G_ref8_has (7, 2, X, a1.1, ())) (none) fun d8 ↦
   bif d8 then
   optC (G_ref8_has (7, 3, Y, 0, ())) (none) fun d9 ↦
   bif d9 then
   optC (G_ref8_has (7, 4, G, (↑(List.length a0.2.1) : Int), ())) (none) fun d10 ↦
   some d10
 else some false
 else some false
 else some false := by kernel_rfl
theorem act_8 (a0 : U) (a1 : C) (T X Y G N op nx el : Int) : g_ref8_act a0 a1 (8, T, X, Y, G, N, op, nx, el) =
  bif N != 0 then
   some false
 else optC (G_ref1_Fits (N, ())) (none) fun d4 ↦
   bif !d4 then
   some false
 else optC (G_ref8_in (nx, (↑(List.length a1.2) : Int), ())) (none) fun d5 ↦
   bif !d5 then
   some false
 else optC (G_ref8_in (el, (↑(List.length a1.2) : Int), ())) (none) fun d6 ↦
   bif !d6 then
   some false
 else bif el != 0 then
   some false
 else bif op != 0 then
   some false
 else optC (G_ref8_has (8, 1, T, 0, ())) (none) fun d7 ↦
   bif d7 then
   optC (G_ref8_has (8, 2, X, a1.1, ())) (none) fun d8 ↦
   bif d8 then
   optC (G_ref8_has (8, 3, Y, a1.1, ())) (none) fun d9 ↦
   bif d9 then
   optC (G_ref8_has (8, 4, G, (↑(List.length a0.2.1) : Int), ())) (none) fun d10 ↦
   some d10
 else some false
 else some false
 else some false := by kernel_rfl
theorem act_9 (a0 : U) (a1 : C) (T X Y G N op nx el : Int) : g_ref8_act a0 a1 (9, T, X, Y, G, N, op, nx, el) =
  bif N != 0 then
   some false
 else optC (G_ref1_Fits (N, ())) (none) fun d4 ↦
   bif !d4 then
   some false
 else optC (G_ref8_in (nx, (↑(List.length a1.2) : Int), ())) (none) fun d5 ↦
   bif !d5 then
   some false
 else optC (G_ref8_in (el, (↑(List.length a1.2) : Int), ())) (none) fun d6 ↦
   bif !d6 then
   some false
 else bif el != 0 then
   some false
 else bif op != 0 then
   some false
 else optC (G_ref8_has (9, 1, T, 0, ())) (none) fun d7 ↦
   bif d7 then
   optC (G_ref8_has (9, 2, X, 0, ())) (none) fun d8 ↦
   bif d8 then
   optC (G_ref8_has (9, 3, Y, 0, ())) (none) fun d9 ↦
   bif d9 then
   optC (G_ref8_has (9, 4, G, a0.2.2.1, ())) (none) fun d10 ↦
   some d10
 else some false
 else some false
 else some false := by kernel_rfl
theorem act_10 (a0 : U) (a1 : C) (T X Y G N op nx el : Int) : g_ref8_act a0 a1 (10, T, X, Y, G, N, op, nx, el) =
  bif N != 0 then
   some false
 else optC (G_ref1_Fits (N, ())) (none) fun d4 ↦
   bif !d4 then
   some false
 else optC (G_ref8_in (nx, (↑(List.length a1.2) : Int), ())) (none) fun d5 ↦
   bif !d5 then
   some false
 else optC (G_ref8_in (el, (↑(List.length a1.2) : Int), ())) (none) fun d6 ↦
   bif !d6 then
   some false
 else bif el != 0 then
   some false
 else bif op != 0 then
   some false
 else optC (G_ref8_has (10, 1, T, 0, ())) (none) fun d7 ↦
   bif d7 then
   optC (G_ref8_has (10, 2, X, 0, ())) (none) fun d8 ↦
   bif d8 then
   optC (G_ref8_has (10, 3, Y, 0, ())) (none) fun d9 ↦
   bif d9 then
   optC (G_ref8_has (10, 4, G, a0.2.2.1, ())) (none) fun d10 ↦
   some d10
 else some false
 else some false
 else some false := by kernel_rfl
theorem act_11 (a0 : U) (a1 : C) (T X Y G N op nx el : Int) : g_ref8_act a0 a1 (11, T, X, Y, G, N, op, nx, el) =
  bif N != 0 then
   some false
 else optC (G_ref1_Fits (N, ())) (none) fun d4 ↦
   bif !d4 then
   some false
 else optC (G_ref8_in (nx, (↑(List.length a1.2) : Int), ())) (none) fun d5 ↦
   bif !d5 then
   some false
 else optC (G_ref8_in (el, (↑(List.length a1.2) : Int), ())) (none) fun d6 ↦
   bif !d6 then
   some false
 else bif decide (op < 1) then
   some false
 else bif decide (op ≥ 7) then
   some false
 else optC (G_ref8_has (11, 1, T, 0, ())) (none) fun d7 ↦
   bif d7 then
   optC (G_ref8_has (11, 2, X, a1.1, ())) (none) fun d8 ↦
   bif d8 then
   optC (G_ref8_has (11, 3, Y, a1.1, ())) (none) fun d9 ↦
   bif d9 then
   optC (G_ref8_has (11, 4, G, 0, ())) (none) fun d10 ↦
   some d10
 else some false
 else some false
 else some false := by kernel_rfl
theorem act_12 (a0 : U) (a1 : C) (T X Y G N op nx el : Int) : g_ref8_act a0 a1 (12, T, X, Y, G, N, op, nx, el) =
  bif N != 0 then
   some false
 else optC (G_ref1_Fits (N, ())) (none) fun d4 ↦
   bif !d4 then
   some false
 else optC (G_ref8_in (nx, (↑(List.length a1.2) : Int), ())) (none) fun d5 ↦
   bif !d5 then
   some false
 else optC (G_ref8_in (el, (↑(List.length a1.2) : Int), ())) (none) fun d6 ↦
   bif !d6 then
   some false
 else bif el != 0 then
   some false
 else bif op != 0 then
   some false
 else optC (G_ref8_has (12, 1, T, 0, ())) (none) fun d7 ↦
   bif d7 then
   optC (G_ref8_has (12, 2, X, 0, ())) (none) fun d8 ↦
   bif d8 then
   optC (G_ref8_has (12, 3, Y, 0, ())) (none) fun d9 ↦
   bif d9 then
   optC (G_ref8_has (12, 4, G, 0, ())) (none) fun d10 ↦
   some d10
 else some false
 else some false
 else some false := by kernel_rfl
theorem act_13 (a0 : U) (a1 : C) (T X Y G N op nx el : Int) : g_ref8_act a0 a1 (13, T, X, Y, G, N, op, nx, el) =
  bif N != 0 then
   some false
 else optC (G_ref1_Fits (N, ())) (none) fun d4 ↦
   bif !d4 then
   some false
 else optC (G_ref8_in (nx, (↑(List.length a1.2) : Int), ())) (none) fun d5 ↦
   bif !d5 then
   some false
 else optC (G_ref8_in (el, (↑(List.length a1.2) : Int), ())) (none) fun d6 ↦
   bif !d6 then
   some false
 else bif el != 0 then
   some false
 else bif op != 0 then
   some false
 else optC (G_ref8_has (13, 1, T, 0, ())) (none) fun d7 ↦
   bif d7 then
   optC (G_ref8_has (13, 2, X, 0, ())) (none) fun d8 ↦
   bif d8 then
   optC (G_ref8_has (13, 3, Y, 0, ())) (none) fun d9 ↦
   bif d9 then
   optC (G_ref8_has (13, 4, G, 0, ())) (none) fun d10 ↦
   some d10
 else some false
 else some false
 else some false := by kernel_rfl
theorem act_14 (a0 : U) (a1 : C) (T X Y G N op nx el : Int) : g_ref8_act a0 a1 (14, T, X, Y, G, N, op, nx, el) =
  bif N != 0 then
   some false
 else optC (G_ref1_Fits (N, ())) (none) fun d4 ↦
   bif !d4 then
   some false
 else optC (G_ref8_in (nx, (↑(List.length a1.2) : Int), ())) (none) fun d5 ↦
   bif !d5 then
   some false
 else optC (G_ref8_in (el, (↑(List.length a1.2) : Int), ())) (none) fun d6 ↦
   bif !d6 then
   some false
 else bif el != 0 then
   some false
 else bif op != 0 then
   some false
 else optC (G_ref8_has (14, 1, T, 0, ())) (none) fun d7 ↦
   bif d7 then
   optC (G_ref8_has (14, 2, X, 0, ())) (none) fun d8 ↦
   bif d8 then
   optC (G_ref8_has (14, 3, Y, 0, ())) (none) fun d9 ↦
   bif d9 then
   optC (G_ref8_has (14, 4, G, 0, ())) (none) fun d10 ↦
   some d10
 else some false
 else some false
 else some false := by kernel_rfl
theorem act_ok_1 (u : U) (c : C) (T X Y G N op nx el : Int) : ∃ b, g_ref8_act u c (1, T, X, Y, G, N, op, nx, el) = some b ∧ (b = true → actOK u c (1, T, X, Y, G, N, op, nx, el)) := by
  rw [act_1]
  simp only [G_ref1_Fits, n_ref1_Fits, G_ref8_in, n_ref8_in, G_ref8_has, n_ref8_has _ _ _ _ (show (0 : Int) ≤ 1 ∧ (1 : Int) ≤ 14 by decide) (show (1 : Int) ≤ 1 ∧ (1 : Int) ≤ 4 by decide), n_ref8_has _ _ _ _ (show (0 : Int) ≤ 1 ∧ (1 : Int) ≤ 14 by decide) (show (1 : Int) ≤ 2 ∧ (2 : Int) ≤ 4 by decide), n_ref8_has _ _ _ _ (show (0 : Int) ≤ 1 ∧ (1 : Int) ≤ 14 by decide) (show (1 : Int) ≤ 3 ∧ (3 : Int) ≤ 4 by decide), n_ref8_has _ _ _ _ (show (0 : Int) ≤ 1 ∧ (1 : Int) ≤ 14 by decide) (show (1 : Int) ≤ 4 ∧ (4 : Int) ≤ 4 by decide), optC_some, cond_eq_ite]
  (repeat' split) <;> (refine ⟨_, rfl, fun hb => ?_⟩) <;> first | (cases hb; done) | skip
  all_goals (constructor <;> simp_all [inB, hasV, usesB, gBd] <;> omega)
theorem act_ok_2 (u : U) (c : C) (T X Y G N op nx el : Int) : ∃ b, g_ref8_act u c (2, T, X, Y, G, N, op, nx, el) = some b ∧ (b = true → actOK u c (2, T, X, Y, G, N, op, nx, el)) := by
  rw [act_2]
  simp only [G_ref1_Fits, n_ref1_Fits, G_ref8_in, n_ref8_in, G_ref8_has, n_ref8_has _ _ _ _ (show (0 : Int) ≤ 2 ∧ (2 : Int) ≤ 14 by decide) (show (1 : Int) ≤ 1 ∧ (1 : Int) ≤ 4 by decide), n_ref8_has _ _ _ _ (show (0 : Int) ≤ 2 ∧ (2 : Int) ≤ 14 by decide) (show (1 : Int) ≤ 2 ∧ (2 : Int) ≤ 4 by decide), n_ref8_has _ _ _ _ (show (0 : Int) ≤ 2 ∧ (2 : Int) ≤ 14 by decide) (show (1 : Int) ≤ 3 ∧ (3 : Int) ≤ 4 by decide), n_ref8_has _ _ _ _ (show (0 : Int) ≤ 2 ∧ (2 : Int) ≤ 14 by decide) (show (1 : Int) ≤ 4 ∧ (4 : Int) ≤ 4 by decide), optC_some, cond_eq_ite]
  (repeat' split) <;> (refine ⟨_, rfl, fun hb => ?_⟩) <;> first | (cases hb; done) | skip
  all_goals (constructor <;> simp_all [inB, hasV, usesB, gBd] <;> omega)
theorem act_ok_3 (u : U) (c : C) (T X Y G N op nx el : Int) : ∃ b, g_ref8_act u c (3, T, X, Y, G, N, op, nx, el) = some b ∧ (b = true → actOK u c (3, T, X, Y, G, N, op, nx, el)) := by
  rw [act_3]
  simp only [G_ref1_Fits, n_ref1_Fits, G_ref8_in, n_ref8_in, G_ref8_has, n_ref8_has _ _ _ _ (show (0 : Int) ≤ 3 ∧ (3 : Int) ≤ 14 by decide) (show (1 : Int) ≤ 1 ∧ (1 : Int) ≤ 4 by decide), n_ref8_has _ _ _ _ (show (0 : Int) ≤ 3 ∧ (3 : Int) ≤ 14 by decide) (show (1 : Int) ≤ 2 ∧ (2 : Int) ≤ 4 by decide), n_ref8_has _ _ _ _ (show (0 : Int) ≤ 3 ∧ (3 : Int) ≤ 14 by decide) (show (1 : Int) ≤ 3 ∧ (3 : Int) ≤ 4 by decide), n_ref8_has _ _ _ _ (show (0 : Int) ≤ 3 ∧ (3 : Int) ≤ 14 by decide) (show (1 : Int) ≤ 4 ∧ (4 : Int) ≤ 4 by decide), optC_some, cond_eq_ite]
  (repeat' split) <;> (refine ⟨_, rfl, fun hb => ?_⟩) <;> first | (cases hb; done) | skip
  all_goals (constructor <;> simp_all [inB, hasV, usesB, gBd] <;> omega)
theorem act_ok_4 (u : U) (c : C) (T X Y G N op nx el : Int) : ∃ b, g_ref8_act u c (4, T, X, Y, G, N, op, nx, el) = some b ∧ (b = true → actOK u c (4, T, X, Y, G, N, op, nx, el)) := by
  rw [act_4]
  simp only [G_ref1_Fits, n_ref1_Fits, G_ref8_in, n_ref8_in, G_ref8_has, n_ref8_has _ _ _ _ (show (0 : Int) ≤ 4 ∧ (4 : Int) ≤ 14 by decide) (show (1 : Int) ≤ 1 ∧ (1 : Int) ≤ 4 by decide), n_ref8_has _ _ _ _ (show (0 : Int) ≤ 4 ∧ (4 : Int) ≤ 14 by decide) (show (1 : Int) ≤ 2 ∧ (2 : Int) ≤ 4 by decide), n_ref8_has _ _ _ _ (show (0 : Int) ≤ 4 ∧ (4 : Int) ≤ 14 by decide) (show (1 : Int) ≤ 3 ∧ (3 : Int) ≤ 4 by decide), n_ref8_has _ _ _ _ (show (0 : Int) ≤ 4 ∧ (4 : Int) ≤ 14 by decide) (show (1 : Int) ≤ 4 ∧ (4 : Int) ≤ 4 by decide), optC_some, cond_eq_ite]
  (repeat' split) <;> (refine ⟨_, rfl, fun hb => ?_⟩) <;> first | (cases hb; done) | skip
  all_goals (constructor <;> simp_all [inB, hasV, usesB, gBd] <;> omega)
theorem act_ok_5 (u : U) (c : C) (T X Y G N op nx el : Int) : ∃ b, g_ref8_act u c (5, T, X, Y, G, N, op, nx, el) = some b ∧ (b = true → actOK u c (5, T, X, Y, G, N, op, nx, el)) := by
  rw [act_5]
  simp only [G_ref1_Fits, n_ref1_Fits, G_ref8_in, n_ref8_in, G_ref8_has, n_ref8_has _ _ _ _ (show (0 : Int) ≤ 5 ∧ (5 : Int) ≤ 14 by decide) (show (1 : Int) ≤ 1 ∧ (1 : Int) ≤ 4 by decide), n_ref8_has _ _ _ _ (show (0 : Int) ≤ 5 ∧ (5 : Int) ≤ 14 by decide) (show (1 : Int) ≤ 2 ∧ (2 : Int) ≤ 4 by decide), n_ref8_has _ _ _ _ (show (0 : Int) ≤ 5 ∧ (5 : Int) ≤ 14 by decide) (show (1 : Int) ≤ 3 ∧ (3 : Int) ≤ 4 by decide), n_ref8_has _ _ _ _ (show (0 : Int) ≤ 5 ∧ (5 : Int) ≤ 14 by decide) (show (1 : Int) ≤ 4 ∧ (4 : Int) ≤ 4 by decide), optC_some, cond_eq_ite]
  (repeat' split) <;> (refine ⟨_, rfl, fun hb => ?_⟩) <;> first | (cases hb; done) | skip
  all_goals (constructor <;> simp_all [inB, hasV, usesB, gBd] <;> omega)
theorem act_ok_6 (u : U) (c : C) (T X Y G N op nx el : Int) : ∃ b, g_ref8_act u c (6, T, X, Y, G, N, op, nx, el) = some b ∧ (b = true → actOK u c (6, T, X, Y, G, N, op, nx, el)) := by
  rw [act_6]
  simp only [G_ref1_Fits, n_ref1_Fits, G_ref8_in, n_ref8_in, G_ref8_has, n_ref8_has _ _ _ _ (show (0 : Int) ≤ 6 ∧ (6 : Int) ≤ 14 by decide) (show (1 : Int) ≤ 1 ∧ (1 : Int) ≤ 4 by decide), n_ref8_has _ _ _ _ (show (0 : Int) ≤ 6 ∧ (6 : Int) ≤ 14 by decide) (show (1 : Int) ≤ 2 ∧ (2 : Int) ≤ 4 by decide), n_ref8_has _ _ _ _ (show (0 : Int) ≤ 6 ∧ (6 : Int) ≤ 14 by decide) (show (1 : Int) ≤ 3 ∧ (3 : Int) ≤ 4 by decide), n_ref8_has _ _ _ _ (show (0 : Int) ≤ 6 ∧ (6 : Int) ≤ 14 by decide) (show (1 : Int) ≤ 4 ∧ (4 : Int) ≤ 4 by decide), optC_some, cond_eq_ite]
  (repeat' split) <;> (refine ⟨_, rfl, fun hb => ?_⟩) <;> first | (cases hb; done) | skip
  all_goals (constructor <;> simp_all [inB, hasV, usesB, gBd] <;> omega)
theorem act_ok_7 (u : U) (c : C) (T X Y G N op nx el : Int) : ∃ b, g_ref8_act u c (7, T, X, Y, G, N, op, nx, el) = some b ∧ (b = true → actOK u c (7, T, X, Y, G, N, op, nx, el)) := by
  rw [act_7]
  simp only [G_ref1_Fits, n_ref1_Fits, G_ref8_in, n_ref8_in, G_ref8_has, n_ref8_has _ _ _ _ (show (0 : Int) ≤ 7 ∧ (7 : Int) ≤ 14 by decide) (show (1 : Int) ≤ 1 ∧ (1 : Int) ≤ 4 by decide), n_ref8_has _ _ _ _ (show (0 : Int) ≤ 7 ∧ (7 : Int) ≤ 14 by decide) (show (1 : Int) ≤ 2 ∧ (2 : Int) ≤ 4 by decide), n_ref8_has _ _ _ _ (show (0 : Int) ≤ 7 ∧ (7 : Int) ≤ 14 by decide) (show (1 : Int) ≤ 3 ∧ (3 : Int) ≤ 4 by decide), n_ref8_has _ _ _ _ (show (0 : Int) ≤ 7 ∧ (7 : Int) ≤ 14 by decide) (show (1 : Int) ≤ 4 ∧ (4 : Int) ≤ 4 by decide), optC_some, cond_eq_ite]
  (repeat' split) <;> (refine ⟨_, rfl, fun hb => ?_⟩) <;> first | (cases hb; done) | skip
  all_goals (constructor <;> simp_all [inB, hasV, usesB, gBd] <;> omega)
theorem act_ok_8 (u : U) (c : C) (T X Y G N op nx el : Int) : ∃ b, g_ref8_act u c (8, T, X, Y, G, N, op, nx, el) = some b ∧ (b = true → actOK u c (8, T, X, Y, G, N, op, nx, el)) := by
  rw [act_8]
  simp only [G_ref1_Fits, n_ref1_Fits, G_ref8_in, n_ref8_in, G_ref8_has, n_ref8_has _ _ _ _ (show (0 : Int) ≤ 8 ∧ (8 : Int) ≤ 14 by decide) (show (1 : Int) ≤ 1 ∧ (1 : Int) ≤ 4 by decide), n_ref8_has _ _ _ _ (show (0 : Int) ≤ 8 ∧ (8 : Int) ≤ 14 by decide) (show (1 : Int) ≤ 2 ∧ (2 : Int) ≤ 4 by decide), n_ref8_has _ _ _ _ (show (0 : Int) ≤ 8 ∧ (8 : Int) ≤ 14 by decide) (show (1 : Int) ≤ 3 ∧ (3 : Int) ≤ 4 by decide), n_ref8_has _ _ _ _ (show (0 : Int) ≤ 8 ∧ (8 : Int) ≤ 14 by decide) (show (1 : Int) ≤ 4 ∧ (4 : Int) ≤ 4 by decide), optC_some, cond_eq_ite]
  (repeat' split) <;> (refine ⟨_, rfl, fun hb => ?_⟩) <;> first | (cases hb; done) | skip
  all_goals (constructor <;> simp_all [inB, hasV, usesB, gBd] <;> omega)
theorem act_ok_9 (u : U) (c : C) (T X Y G N op nx el : Int) : ∃ b, g_ref8_act u c (9, T, X, Y, G, N, op, nx, el) = some b ∧ (b = true → actOK u c (9, T, X, Y, G, N, op, nx, el)) := by
  rw [act_9]
  simp only [G_ref1_Fits, n_ref1_Fits, G_ref8_in, n_ref8_in, G_ref8_has, n_ref8_has _ _ _ _ (show (0 : Int) ≤ 9 ∧ (9 : Int) ≤ 14 by decide) (show (1 : Int) ≤ 1 ∧ (1 : Int) ≤ 4 by decide), n_ref8_has _ _ _ _ (show (0 : Int) ≤ 9 ∧ (9 : Int) ≤ 14 by decide) (show (1 : Int) ≤ 2 ∧ (2 : Int) ≤ 4 by decide), n_ref8_has _ _ _ _ (show (0 : Int) ≤ 9 ∧ (9 : Int) ≤ 14 by decide) (show (1 : Int) ≤ 3 ∧ (3 : Int) ≤ 4 by decide), n_ref8_has _ _ _ _ (show (0 : Int) ≤ 9 ∧ (9 : Int) ≤ 14 by decide) (show (1 : Int) ≤ 4 ∧ (4 : Int) ≤ 4 by decide), optC_some, cond_eq_ite]
  (repeat' split) <;> (refine ⟨_, rfl, fun hb => ?_⟩) <;> first | (cases hb; done) | skip
  all_goals (constructor <;> simp_all [inB, hasV, usesB, gBd] <;> omega)
theorem act_ok_10 (u : U) (c : C) (T X Y G N op nx el : Int) : ∃ b, g_ref8_act u c (10, T, X, Y, G, N, op, nx, el) = some b ∧ (b = true → actOK u c (10, T, X, Y, G, N, op, nx, el)) := by
  rw [act_10]
  simp only [G_ref1_Fits, n_ref1_Fits, G_ref8_in, n_ref8_in, G_ref8_has, n_ref8_has _ _ _ _ (show (0 : Int) ≤ 10 ∧ (10 : Int) ≤ 14 by decide) (show (1 : Int) ≤ 1 ∧ (1 : Int) ≤ 4 by decide), n_ref8_has _ _ _ _ (show (0 : Int) ≤ 10 ∧ (10 : Int) ≤ 14 by decide) (show (1 : Int) ≤ 2 ∧ (2 : Int) ≤ 4 by decide), n_ref8_has _ _ _ _ (show (0 : Int) ≤ 10 ∧ (10 : Int) ≤ 14 by decide) (show (1 : Int) ≤ 3 ∧ (3 : Int) ≤ 4 by decide), n_ref8_has _ _ _ _ (show (0 : Int) ≤ 10 ∧ (10 : Int) ≤ 14 by decide) (show (1 : Int) ≤ 4 ∧ (4 : Int) ≤ 4 by decide), optC_some, cond_eq_ite]
  (repeat' split) <;> (refine ⟨_, rfl, fun hb => ?_⟩) <;> first | (cases hb; done) | skip
  all_goals (constructor <;> simp_all [inB, hasV, usesB, gBd] <;> omega)
theorem act_ok_11 (u : U) (c : C) (T X Y G N op nx el : Int) : ∃ b, g_ref8_act u c (11, T, X, Y, G, N, op, nx, el) = some b ∧ (b = true → actOK u c (11, T, X, Y, G, N, op, nx, el)) := by
  rw [act_11]
  simp only [G_ref1_Fits, n_ref1_Fits, G_ref8_in, n_ref8_in, G_ref8_has, n_ref8_has _ _ _ _ (show (0 : Int) ≤ 11 ∧ (11 : Int) ≤ 14 by decide) (show (1 : Int) ≤ 1 ∧ (1 : Int) ≤ 4 by decide), n_ref8_has _ _ _ _ (show (0 : Int) ≤ 11 ∧ (11 : Int) ≤ 14 by decide) (show (1 : Int) ≤ 2 ∧ (2 : Int) ≤ 4 by decide), n_ref8_has _ _ _ _ (show (0 : Int) ≤ 11 ∧ (11 : Int) ≤ 14 by decide) (show (1 : Int) ≤ 3 ∧ (3 : Int) ≤ 4 by decide), n_ref8_has _ _ _ _ (show (0 : Int) ≤ 11 ∧ (11 : Int) ≤ 14 by decide) (show (1 : Int) ≤ 4 ∧ (4 : Int) ≤ 4 by decide), optC_some, cond_eq_ite]
  (repeat' split) <;> (refine ⟨_, rfl, fun hb => ?_⟩) <;> first | (cases hb; done) | skip
  all_goals (constructor <;> simp_all [inB, hasV, usesB, gBd] <;> omega)
theorem act_ok_12 (u : U) (c : C) (T X Y G N op nx el : Int) : ∃ b, g_ref8_act u c (12, T, X, Y, G, N, op, nx, el) = some b ∧ (b = true → actOK u c (12, T, X, Y, G, N, op, nx, el)) := by
  rw [act_12]
  simp only [G_ref1_Fits, n_ref1_Fits, G_ref8_in, n_ref8_in, G_ref8_has, n_ref8_has _ _ _ _ (show (0 : Int) ≤ 12 ∧ (12 : Int) ≤ 14 by decide) (show (1 : Int) ≤ 1 ∧ (1 : Int) ≤ 4 by decide), n_ref8_has _ _ _ _ (show (0 : Int) ≤ 12 ∧ (12 : Int) ≤ 14 by decide) (show (1 : Int) ≤ 2 ∧ (2 : Int) ≤ 4 by decide), n_ref8_has _ _ _ _ (show (0 : Int) ≤ 12 ∧ (12 : Int) ≤ 14 by decide) (show (1 : Int) ≤ 3 ∧ (3 : Int) ≤ 4 by decide), n_ref8_has _ _ _ _ (show (0 : Int) ≤ 12 ∧ (12 : Int) ≤ 14 by decide) (show (1 : Int) ≤ 4 ∧ (4 : Int) ≤ 4 by decide), optC_some, cond_eq_ite]
  (repeat' split) <;> (refine ⟨_, rfl, fun hb => ?_⟩) <;> first | (cases hb; done) | skip
  all_goals (constructor <;> simp_all [inB, hasV, usesB, gBd] <;> omega)
theorem act_ok_13 (u : U) (c : C) (T X Y G N op nx el : Int) : ∃ b, g_ref8_act u c (13, T, X, Y, G, N, op, nx, el) = some b ∧ (b = true → actOK u c (13, T, X, Y, G, N, op, nx, el)) := by
  rw [act_13]
  simp only [G_ref1_Fits, n_ref1_Fits, G_ref8_in, n_ref8_in, G_ref8_has, n_ref8_has _ _ _ _ (show (0 : Int) ≤ 13 ∧ (13 : Int) ≤ 14 by decide) (show (1 : Int) ≤ 1 ∧ (1 : Int) ≤ 4 by decide), n_ref8_has _ _ _ _ (show (0 : Int) ≤ 13 ∧ (13 : Int) ≤ 14 by decide) (show (1 : Int) ≤ 2 ∧ (2 : Int) ≤ 4 by decide), n_ref8_has _ _ _ _ (show (0 : Int) ≤ 13 ∧ (13 : Int) ≤ 14 by decide) (show (1 : Int) ≤ 3 ∧ (3 : Int) ≤ 4 by decide), n_ref8_has _ _ _ _ (show (0 : Int) ≤ 13 ∧ (13 : Int) ≤ 14 by decide) (show (1 : Int) ≤ 4 ∧ (4 : Int) ≤ 4 by decide), optC_some, cond_eq_ite]
  (repeat' split) <;> (refine ⟨_, rfl, fun hb => ?_⟩) <;> first | (cases hb; done) | skip
  all_goals (constructor <;> simp_all [inB, hasV, usesB, gBd] <;> omega)
theorem act_ok_14 (u : U) (c : C) (T X Y G N op nx el : Int) : ∃ b, g_ref8_act u c (14, T, X, Y, G, N, op, nx, el) = some b ∧ (b = true → actOK u c (14, T, X, Y, G, N, op, nx, el)) := by
  rw [act_14]
  simp only [G_ref1_Fits, n_ref1_Fits, G_ref8_in, n_ref8_in, G_ref8_has, n_ref8_has _ _ _ _ (show (0 : Int) ≤ 14 ∧ (14 : Int) ≤ 14 by decide) (show (1 : Int) ≤ 1 ∧ (1 : Int) ≤ 4 by decide), n_ref8_has _ _ _ _ (show (0 : Int) ≤ 14 ∧ (14 : Int) ≤ 14 by decide) (show (1 : Int) ≤ 2 ∧ (2 : Int) ≤ 4 by decide), n_ref8_has _ _ _ _ (show (0 : Int) ≤ 14 ∧ (14 : Int) ≤ 14 by decide) (show (1 : Int) ≤ 3 ∧ (3 : Int) ≤ 4 by decide), n_ref8_has _ _ _ _ (show (0 : Int) ≤ 14 ∧ (14 : Int) ≤ 14 by decide) (show (1 : Int) ≤ 4 ∧ (4 : Int) ≤ 4 by decide), optC_some, cond_eq_ite]
  (repeat' split) <;> (refine ⟨_, rfl, fun hb => ?_⟩) <;> first | (cases hb; done) | skip
  all_goals (constructor <;> simp_all [inB, hasV, usesB, gBd] <;> omega)
theorem act_no (u : U) (c : C) (a : A) (h : ¬ (1 ≤ a.1 ∧ a.1 ≤ 14)) : g_ref8_act u c a = some false := by
  unfold g_ref8_act
  have f : ∀ k : Int, 1 ≤ k → k ≤ 14 → (a.1 == k) = false := fun k h1 h2 => by
    rw [beq_eq_false_iff_ne]; omega
  simp only [f 1 (by decide) (by decide), f 2 (by decide) (by decide), f 3 (by decide) (by decide), f 4 (by decide) (by decide), f 5 (by decide) (by decide), f 6 (by decide) (by decide), f 7 (by decide) (by decide), f 8 (by decide) (by decide), f 9 (by decide) (by decide), f 10 (by decide) (by decide), f 11 (by decide) (by decide), f 12 (by decide) (by decide), f 13 (by decide) (by decide), f 14 (by decide) (by decide), cond_false]
theorem n_ref8_act (u : U) (c : C) (a : A) : ∃ b, g_ref8_act u c a = some b ∧ (b = true → actOK u c a) := by
  by_cases h : 1 ≤ a.1 ∧ a.1 ≤ 14
  · obtain ⟨k, T, X, Y, G, N, op, nx, el⟩ := a
    have h1 : k = 1 ∨ k = 2 ∨ k = 3 ∨ k = 4 ∨ k = 5 ∨ k = 6 ∨ k = 7 ∨ k = 8 ∨ k = 9 ∨ k = 10 ∨ k = 11 ∨ k = 12 ∨ k = 13 ∨ k = 14 := by simp only at h; omega
    rcases h1 with rfl | rfl | rfl | rfl | rfl | rfl | rfl | rfl | rfl | rfl | rfl | rfl | rfl | rfl
    · exact act_ok_1 ..
    · exact act_ok_2 ..
    · exact act_ok_3 ..
    · exact act_ok_4 ..
    · exact act_ok_5 ..
    · exact act_ok_6 ..
    · exact act_ok_7 ..
    · exact act_ok_8 ..
    · exact act_ok_9 ..
    · exact act_ok_10 ..
    · exact act_ok_11 ..
    · exact act_ok_12 ..
    · exact act_ok_13 ..
    · exact act_ok_14 ..
  · exact ⟨false, act_no u c a h, fun k => nomatch k⟩
end Go.Proofs.Ytbdcblpjemmipaa.Ex

namespace Go.Proofs.Ytbdcblpjemmipaa.Ex
set_option maxRecDepth 100000
set_option linter.unusedVariables false
set_option linter.unusedSimpArgs false
theorem rangeO_ask {α Y : Type} {f : Nat → Unit → α → Option (Unit ⊕ Y)} {fin : Unit → Option Y} {p : Nat → α → Bool} {o : Y} : ∀ (l : List α) (i : Nat), (∀ j d, l[j]? = some d → f (i + j) () d = bif p (i + j) d then some (.inl ()) else some (.inr o)) →
    rangeO f fin i l () = bif allIx p i l then fin () else some o
  | [], i, _ => rfl
  | d :: r, i, h => by
    have k := rangeO_ask (fin := fin) r (i + 1) fun j d hd => by
      have := h (j + 1) d hd
      rwa [show i + (j + 1) = i + 1 + j by omega] at this
    have h0 := h 0 d rfl
    rw [Nat.add_zero] at h0
    simp only [rangeO, allIx, h0]
    cases p i d
    · rfl
    · exact k
theorem allIx_iff {α : Type} {p : Nat → α → Bool} : ∀ {l : List α} {i : Nat}, allIx p i l = true ↔ ∀ j d, l[j]? = some d → p (i + j) d = true
  | [], i => by simp [allIx]
  | d :: r, i => by
    rw [allIx, Bool.and_eq_true, allIx_iff]
    constructor
    · rintro ⟨h, k⟩ j e hj
      cases j with
      | zero => cases hj; exact h
      | succ j => have := k j e hj; rwa [show i + 1 + j = i + (j + 1) by omega] at this
    · intro k
      refine ⟨by have := k 0 d rfl; rwa [Nat.add_zero] at this, fun j e hj => ?_⟩
      have := k (j + 1) e hj
      rwa [show i + (j + 1) = i + 1 + j by omega] at this
theorem allIx_mem {α : Type} {p : α → Bool} {l : List α} (h : allIx (fun _ d => p d) 0 l = true) : ∀ d ∈ l, p d = true := by
  rw [allIx_all] at h
  exact List.all_eq_true.1 h
noncomputable def actB (u : U) (c : C) (a : A) : Bool := (g_ref8_act u c a).getD false
theorem actB_eq (u : U) (c : C) (a : A) : g_ref8_act u c a = some (actB u c a) := by
  obtain ⟨b, h, _⟩ := n_ref8_act u c a
  unfold actB
  rw [h]; rfl
theorem actB_ok {u : U} {c : C} {a : A} (h : actB u c a = true) : actOK u c a := by
  obtain ⟨b, h1, h2⟩ := n_ref8_act u c a
  rw [actB_eq] at h1
  cases h1
  exact h2 h
noncomputable def codeB (u : U) (c : C) : Bool := inB c.1 41 && !decide ((c.2.length : Int) < 1) && !decide ((c.2.length : Int) > 60) && (c.2[c.2.length - 1]?).elim false (fun a => a.1 == 14) && allIx (fun _ a => actB u c a) 0 c.2
theorem l6 (s5 : Int) (u : U) (c : C) (hl : c.2.length < 9223372036854775807) : L_ref8_Is_82_6_0 (s5, (c.2.length : Int), 0, u.1, u.2.1, u.2.2.1, u.2.2.2, c.1, c.2) =
    bif allIx (fun _ a => actB u c a) 0 c.2 then some (.inl (s5, u.1, u.2.1, u.2.2.1, u.2.2.2)) else some (.inr (false, s5, u.1, u.2.1, u.2.2.1, u.2.2.2)) := by
  rw [rg_ref8_Is_82_6_0 s5 u.1 u.2.1 u.2.2.1 u.2.2.2 c.1 c.2 () hl]
  unfold rv_ref8_Is_82_6_0
  rw [rangeO_ask (p := fun _ a => actB u c a) (o := .inr (false, s5, u.1, u.2.1, u.2.2.1, u.2.2.2)) c.2 0 fun j d hd => ?_]
  · rfl
  · unfold bd_ref8_Is_82_6_0 G_ref8_act
    simp only [actB_eq, optC_some]
    cases actB u c d <;> rfl
theorem l4 (u : U) (hl : ∀ c ∈ u.2.2.2, c.2.length < 9223372036854775807) (hn : u.2.2.2.length < 9223372036854775807) : L_ref8_Is_82_4_0 (0, u.1, u.2.1, u.2.2.1, u.2.2.2) = bif allIx (fun _ c => codeB u c) 0 u.2.2.2 then some (.inl ()) else some (.inr false) := by
  unfold L_ref8_Is_82_4_0
  refine (iterO_range0 u.2.2.2 (fun i (_ : Unit) => (((i : Int), u.1, u.2.1, u.2.2.1, u.2.2.2) : Int × List Int × List Int × Int × List C)) (fun i _ c => bif codeB u c then some (.inl ()) else some (.inr (.inr false))) (fun _ => some (.inl ())) ?_ ?_ () (by unfold FUEL; omega)).trans ?_
  · intro i s d hi hd
    have hm := hl d (List.mem_of_getElem? hd)
    have e1 : decide ((i : Int) < (u.2.2.2.length : Int)) = true := decide_eq_true (by omega)
    have e2 : decide (0 ≤ (i : Int)) = true := decide_eq_true (by omega)
    have e3 : Int.toNat (i : Int) = i := Int.toNat_natCast i
    have e4 := wrap_next hi (Nat.le_of_lt hn)
    show st_ref8_Is_82_4_0 (i : Int) u.1 u.2.1 u.2.2.1 u.2.2.2 = upd _ (bif codeB u d then some (.inl ()) else some (.inr (.inr false)))
    unfold st_ref8_Is_82_4_0 G_ref8_in
    simp only [e1, e2, e3, hd, cond_true, optC_some, n_ref8_in]
    have q := l6 (i : Int) u d hm
    unfold codeB
    cases inB d.1 41
    · rfl
    by_cases h1 : (d.2.length : Int) < 1
    · rw [decide_eq_true h1]; rfl
    by_cases h2 : (d.2.length : Int) > 60
    · rw [decide_eq_false h1, decide_eq_true h2]; rfl
    rw [decide_eq_false h1, decide_eq_false h2]
    have e5 : IntKind.i64.wrap ((d.2.length : Int) - 1) = ((d.2.length - 1 : Nat) : Int) := by rw [wrap_fits (by omega) (by omega)]; omega
    rw [e5]
    have e6 : decide (0 ≤ ((d.2.length - 1 : Nat) : Int)) = true := decide_eq_true (by omega)
    rw [e6, Int.toNat_natCast]
    obtain ⟨a, ha⟩ : ∃ a, d.2[d.2.length - 1]? = some a := ⟨d.2[d.2.length - 1]'(by omega), List.getElem?_eq_getElem _⟩
    simp only [cond_true, cond_false, Bool.not_true, Bool.not_false, Bool.true_and, ha, optC_some, Option.elim_some]
    cases h3 : a.1 == 14
    · rw [show (a.1 != 14) = true by simp [bne, h3]]; rfl
    · rw [show (a.1 != 14) = false by simp [bne, h3]]
      simp only [cond_false, Bool.true_and]
      have q2 : L_ref8_Is_82_6_0 ((i : Int), (d.2.length : Int), 0, u.1, u.2.1, u.2.2.1, u.2.2.2, d) = _ := q
      rw [q2]
      cases allIx (fun _ a => actB u d a) 0 d.2
      · rfl
      · simp only [cond_true, optC_some, Sum.elim_inl, e4]; rfl
  · intro s
    show st_ref8_Is_82_4_0 (u.2.2.2.length : Int) u.1 u.2.1 u.2.2.1 u.2.2.2 = _
    unfold st_ref8_Is_82_4_0
    rw [show decide ((u.2.2.2.length : Int) < (u.2.2.2.length : Int)) = false from decide_eq_false (by omega)]
    rfl
  · rw [rangeO_ask (p := fun _ c => codeB u c) (o := .inr false) u.2.2.2 0 fun j d hd => rfl]
theorem l0 (u : U) (hn : u.1.length < 9223372036854775807) : L_ref8_Is_82_0_0 (0, u) = bif u.1.all fitB then some (.inl u) else some (.inr (false, u)) := by
  have := rg_ref8_Is_82_0_0 u.2.1 u.2.2.1 u.2.2.2 u.1 () hn
  refine this.trans ?_
  unfold rv_ref8_Is_82_0_0
  rw [rangeO_ask (p := fun _ a => fitB a) (o := .inr (false, u.1, u.2.1, u.2.2.1, u.2.2.2)) u.1 0 fun j d hd => ?_, allIx_all]
  · rfl
  · unfold bd_ref8_Is_82_0_0 G_ref1_Fits
    simp only [n_ref1_Fits, optC_some]
    cases fitB d <;> rfl
theorem l2 (u : U) (hn : u.2.1.length < 9223372036854775807) : L_ref8_Is_82_2_0 (0, u) = bif u.2.1.all (fun n => !decide (n < 1) && !decide (n > 16)) then some (.inl u) else some (.inr (false, u)) := by
  have := rg_ref8_Is_82_2_0 u.1 u.2.2.1 u.2.2.2 u.2.1 () hn
  refine this.trans ?_
  unfold rv_ref8_Is_82_2_0
  rw [rangeO_ask (p := fun _ n => !decide (n < 1) && !decide (n > 16)) (o := .inr (false, u.1, u.2.1, u.2.2.1, u.2.2.2)) u.2.1 0 fun j d hd => ?_, allIx_all]
  · rfl
  · unfold bd_ref8_Is_82_2_0
    cases decide (d < 1)
    · cases decide (d > 16) <;> rfl
    · rfl
structure codeOK (u : U) (c : C) : Prop where
  v : 0 ≤ c.1 ∧ c.1 ≤ 40
  n : 1 ≤ c.2.length ∧ c.2.length ≤ 60
  e : ∃ a, c.2[c.2.length - 1]? = some a ∧ a.1 = 14
  a : ∀ a ∈ c.2, actOK u c a
structure unitOK (u : U) : Prop where
  g : u.1.length ≤ 6
  a : u.2.1.length ≤ 3
  m : 0 ≤ u.2.2.1 ∧ u.2.2.1 ≤ 6
  t : 1 ≤ u.2.2.2.length ∧ u.2.2.2.length ≤ 4
  gs : ∀ n ∈ u.1, fitB n = true
  ars : ∀ n ∈ u.2.1, 1 ≤ n ∧ n ≤ 16
  ts : ∀ c ∈ u.2.2.2, codeOK u c
theorem codeB_ok {u : U} {c : C} (h : codeB u c = true) : codeOK u c := by
  unfold codeB at h
  simp only [Bool.and_eq_true, Bool.not_eq_true', decide_eq_false_iff_not, inB, decide_eq_true_eq] at h
  obtain ⟨⟨⟨⟨h1, h2⟩, h3⟩, h4⟩, h5⟩ := h
  refine ⟨by omega, by omega, ?_, fun a ha => actB_ok (allIx_mem h5 a ha)⟩
  cases q : c.2[c.2.length - 1]? with
  | none => rw [q] at h4; cases h4
  | some a => rw [q] at h4; exact ⟨a, rfl, by simpa using h4⟩
def sizeU (u : U) : Prop := u.1.length < 9223372036854775807 ∧ u.2.1.length < 9223372036854775807 ∧ u.2.2.2.length < 9223372036854775807 ∧ ∀ c ∈ u.2.2.2, c.2.length < 9223372036854775807
theorem n_ref8_Is (u : U) (hs : sizeU u) : ∃ b, g_ref8_Is u = some b ∧ (b = true → unitOK u) := by
  obtain ⟨s1, s2, s3, s4⟩ := hs
  unfold g_ref8_Is G_ref8_in
  simp only [n_ref8_in, optC_some, l0 u s1]
  by_cases h1 : (u.1.length : Int) > 6
  · rw [decide_eq_true h1]; exact ⟨_, rfl, fun k => nomatch k⟩
  by_cases h2 : (u.2.1.length : Int) > 3
  · rw [decide_eq_false h1, decide_eq_true h2]; exact ⟨_, rfl, fun k => nomatch k⟩
  cases h3 : inB u.2.2.1 7
  · rw [decide_eq_false h1, decide_eq_false h2]; exact ⟨_, rfl, fun k => nomatch k⟩
  by_cases h4 : (u.2.2.2.length : Int) < 1
  · rw [decide_eq_false h1, decide_eq_false h2, decide_eq_true h4]; exact ⟨_, rfl, fun k => nomatch k⟩
  by_cases h5 : (u.2.2.2.length : Int) > 4
  · rw [decide_eq_false h1, decide_eq_false h2, decide_eq_false h4, decide_eq_true h5]; exact ⟨_, rfl, fun k => nomatch k⟩
  rw [decide_eq_false h1, decide_eq_false h2, decide_eq_false h4, decide_eq_false h5]
  simp only [cond_true, cond_false, Bool.not_true, Bool.not_false]
  cases h6 : u.1.all fitB
  · exact ⟨_, rfl, fun k => nomatch k⟩
  simp only [cond_true, optC_some, Sum.elim_inl, l2 u s2]
  cases h7 : u.2.1.all fun n => !decide (n < 1) && !decide (n > 16)
  · exact ⟨_, rfl, fun k => nomatch k⟩
  simp only [cond_true, optC_some, Sum.elim_inl]
  have q := l4 u s4 s3
  have q2 : L_ref8_Is_82_4_0 (0, u) = _ := q
  rw [q2]
  cases h8 : allIx (fun _ c => codeB u c) 0 u.2.2.2
  · exact ⟨_, rfl, fun k => nomatch k⟩
  refine ⟨_, rfl, fun _ => ?_⟩
  simp only [inB, Bool.and_eq_true, decide_eq_true_eq] at h3
  refine ⟨by omega, by omega, by omega, by omega, List.all_eq_true.1 h6, fun n hn => ?_, fun c hc => codeB_ok (allIx_mem h8 c hc)⟩
  have := List.all_eq_true.1 h7 n hn
  simp only [Bool.and_eq_true, Bool.not_eq_true', decide_eq_false_iff_not] at this
  omega
end Go.Proofs.Ytbdcblpjemmipaa.Ex

namespace Go.Proofs.Ytbdcblpjemmipaa.Ex
open Go.Proofs Go.Proofs.Ytbdcblpjemmipaa
set_option maxRecDepth 100000
set_option maxHeartbeats 2000000
set_option linter.unusedVariables false
set_option linter.unusedSimpArgs false
abbrev ty_78_0 : Type := ((Int × (Unit × (Int × (Int × Unit)))) × (((List Int) × ((List Int) × (Int × ((List C) × Unit)))) × Unit))
abbrev ty_78_1 : Type := ((Unit × (Unit × Unit)) × (((List Int) × ((List Int) × (Int × ((List C) × Unit)))) × Unit))
abbrev ty_78_2 : Type := ((Unit × (Bool × Unit)) × (((List Int) × ((List Int) × (Int × ((List C) × Unit)))) × Unit))
abbrev fn_78_0 := (fun (d : ty_78_0) => ((d.1.1, d.1.2.2.1, d.1.2.2.2.1, d.2.1.1, d.2.1.2.1, d.2.1.2.2.1, d.2.1.2.2.2.1) : (Int × Int × Int × (List Int) × (List Int) × Int × (List C))))
abbrev fn_78_1 := (fun (x : (Bool × (List Int) × (List Int) × Int × (List C))) => ((((), x.1, ()), ((x.2.1, x.2.2.1, x.2.2.2.1, x.2.2.2.2, ()), ())) : ty_78_2))
abbrev fn_78_2 := (fun (x : ((List Int) × (List Int) × Int × (List C))) => ((((), (), ()), ((x.1, x.2.1, x.2.2.1, x.2.2.2, ()), ())) : ty_78_1))
def ash_law13_big : List Sh := [.dat tU, .dat (.int .i64)]
def kp_law13_big_68_0 : Nat → List Nat := fun c => bif c.beq 0 then [1, 2, 5, 6] else [2, 4]
noncomputable def sp_law13_big : Nat → Option (List AV → Prog AV)
  | 82 => some (con_ref8_Is)
  | _ => none
theorem hsp_law13_big : ∀ g p, sp_law13_big g = some p → SoundA Try.prog g p := by
  intro g p h
  unfold sp_law13_big at h
  split at h
  · cases h; exact snd_ref8_Is
  · cases h
noncomputable def cx_law13_big0 : Ctx := { tab := tab, spec := sp_law13_big, inl := inl, lps := fun _ _ => none, fuel := 40 }
theorem in_law13_big0 : InlOk Try.prog cx_law13_big0 := ⟨inl_ok, fun _ _ _ _ _ _ _ _ h => nomatch h⟩
theorem cal_law13_big0 (g : Nat) : SoundA Try.prog g (evF cx_law13_big0 keeps 8 g) := evF_sound (tabOk_of tab_ok) (cmpsOk_of tab_ok cmps_ok) mixed in_law13_big0 hsp_law13_big keeps 8 g
noncomputable def F_law13_big_68_0 (base : Nat) : Tm → Prog (Nat × Tm) := evC cx_law13_big0 (evF cx_law13_big0 keeps 8) ⟨68, 45, keeps 68, base⟩ 0 (bodyX 68 0)
def s_law13_big_68_0_0 : StS := ⟨[(1, .int .i64), (2, .ptr 0 0), (5, .int .i64), (6, .int .i64)], [(0, .box [.sl (.int .i64), .sl (.int .i64), .int .i64, .sl tC])], 1⟩
def x_law13_big_68_0_0_0 : StS := ⟨[(2, .ptr 0 0), (4, .undef)], [(0, .box [.sl (.int .i64), .sl (.int .i64), .int .i64, .sl tC])], 1⟩
def x_law13_big_68_0_0_1 : StS := ⟨[(2, .ptr 0 0), (4, .bool)], [(0, .box [.sl (.int .i64), .sl (.int .i64), .int .i64, .sl tC])], 1⟩
noncomputable def st_law13_big_68_0_0 (s1 : Int) (s5 : Int) (s6 : Int) (b0 : (List Int)) (b0_1 : (List Int)) (b0_2 : Int) (b0_3 : (List C)) : Option ((Int × Int × Int × (List Int) × (List Int) × Int × (List C)) ⊕ (((List Int) × (List Int) × Int × (List C)) ⊕ (Bool × (List Int) × (List Int) × Int × (List C)))) :=
  bif decide (s6 < (↑b0_3.length : Int)) then
 bif decide (0 ≤ s6) then
 optC b0_3[s6.toNat]? none fun d9 ↦
 bif decide (Go.IntKind.i64.wrap (s5 + (↑(List.length d9.2) : Int)) > s1) then some (Sum.inr (Sum.inr (true, b0, b0_1, b0_2, b0_3)))
 else some (Sum.inl (s1, Go.IntKind.i64.wrap (s5 + (↑(List.length d9.2) : Int)), Go.IntKind.i64.wrap (s6 + 1), b0, b0_1, b0_2, b0_3))
 else none
 else some (Sum.inr (Sum.inl (b0, b0_1, b0_2, b0_3)))
theorem rn_law13_big_68_0_0 (s1 : Int) (s5 : Int) (s6 : Int) (b0 : (List Int)) (b0_1 : (List Int)) (b0_2 : Int) (b0_3 : (List C)) : rdX cx_law13_big0 keeps 8 ⟨68, 45, keeps 68, 0⟩ 0 (bodyX 68 0) 0 kp_law13_big_68_0 (sT s_law13_big_68_0_0 ((s1, (), s5, s6, ()), ((b0, b0_1, b0_2, b0_3, ()), ()))) (sH s_law13_big_68_0_0 ((s1, (), s5, s6, ()), ((b0, b0_1, b0_2, b0_3, ()), ()))) (rdO (fun T h => (rdS s_law13_big_68_0_0 T h).map fn_78_0) (getOr (getE 2 x_law13_big_68_0_0_0 (fun (d : ty_78_1) => ((d.2.1.1, d.2.1.2.1, d.2.1.2.2.1, d.2.1.2.2.2.1) : ((List Int) × (List Int) × Int × (List C))))) (getE 1 x_law13_big_68_0_0_1 (fun (d : ty_78_2) => ((d.1.2.1, d.2.1.1, d.2.1.2.1, d.2.1.2.2.1, d.2.1.2.2.2.1) : (Bool × (List Int) × (List Int) × Int × (List C))))))) = st_law13_big_68_0_0 s1 s5 s6 b0 b0_1 b0_2 b0_3 := by kernel_rfl
noncomputable def L_law13_big_68_0_0 (x : (Int × Int × Int × (List Int) × (List Int) × Int × (List C))) : Option (((List Int) × (List Int) × Int × (List C)) ⊕ (Bool × (List Int) × (List Int) × Int × (List C))) := iterO (fun x => st_law13_big_68_0_0 x.1 x.2.1 x.2.2.1 x.2.2.2.1 x.2.2.2.2.1 x.2.2.2.2.2.1 x.2.2.2.2.2.2) FUEL x
noncomputable def q_law13_big_68_0 : Nat → Tm → Prog (Nat × Tm) := (varP 0 (fun T h => (rdS s_law13_big_68_0_0 T h).map fn_78_0) L_law13_big_68_0_0 (fun y => .alt y (altE 2 x_law13_big_68_0_0_0 fn_78_2) (altE 1 x_law13_big_68_0_0_1 fn_78_1)) (fun _ _ => .fail))
theorem ok_law13_big_68_0 : VarOk kp_law13_big_68_0 F_law13_big_68_0 q_law13_big_68_0 := (varX_ok (s := s_law13_big_68_0_0) (un := (fun (x : (Int × Int × Int × (List Int) × (List Int) × Int × (List C))) => (((x.1, (), x.2.1, x.2.2.1, ()), ((x.2.2.2.1, x.2.2.2.2.1, x.2.2.2.2.2.1, x.2.2.2.2.2.2, ()), ())) : ty_78_0))) (by rfl) (fun _ => rfl) (getOr_ok (getE_ok (s := x_law13_big_68_0_0_0) (un := fn_78_2) (by rfl) (fun _ => rfl)) (getE_ok (s := x_law13_big_68_0_0_1) (un := fn_78_1) (by rfl) (fun _ => rfl))) (step := fun x => st_law13_big_68_0_0 x.1 x.2.1 x.2.2.1 x.2.2.2.1 x.2.2.2.2.1 x.2.2.2.2.2.1 x.2.2.2.2.2.2) (fun x => rn_law13_big_68_0_0 x.1 x.2.1 x.2.2.1 x.2.2.2.1 x.2.2.2.2.1 x.2.2.2.2.2.1 x.2.2.2.2.2.2) (fun _ _ e => ⟨_, e⟩) (altOr_ok (altE_ok 2 x_law13_big_68_0_0_0 fn_78_2) (altE_ok 1 x_law13_big_68_0_0_1 fn_78_1)) (VarOk.fail _ _))
noncomputable def lpI_law13_big_68_0 (base : Nat) (T : Tm) : Prog (Nat × Tm) := .norm base (kp_law13_big_68_0 0) T (q_law13_big_68_0 base)
theorem sndI_law13_big_68_0 : SoundC Try.prog 45 (.loop (bodyX 68 0)) lpI_law13_big_68_0 := loopK_sound (cx := cx_law13_big0) (cal := evF cx_law13_big0 keeps 8) (kp := keeps 68) (tabOk_of tab_ok) (cmpsOk_of tab_ok cmps_ok) cal_law13_big0 mixed (hl_of (g := 68) (b := 0) in_law13_big0 (by kernel_rfl) (by kernel_rfl)) ok_law13_big_68_0
noncomputable def lpL_law13_big_68_0 : Nat → Tm → Prog (Nat × Tm) := lpI_law13_big_68_0
theorem sndL_law13_big_68_0 : SoundC Try.prog 45 (.loop (bodyX 68 0)) lpL_law13_big_68_0 := sndI_law13_big_68_0
noncomputable def lp_law13_big : Nat → Nat → Option (Nat → Tm → Prog (Nat × Tm))
  | 68, 0 => some lpL_law13_big_68_0
  | _, _ => none
noncomputable def cx_law13_big : Ctx := { tab := tab, spec := sp_law13_big, inl := inl, lps := lp_law13_big, fuel := 40 }
theorem in_law13_big : InlOk Try.prog cx_law13_big := ⟨inl_ok, fun g fn c hg hb q hq p hp => by
  change lp_law13_big g q.1 = some p at hp
  change inl g = some fn at hg
  generalize hq1 : q.1 = b at hp
  unfold lp_law13_big at hp
  split at hp
  · cases hp; exact lps_case (inl := inl) hg hb hq hq1 (by kernel_rfl) (by kernel_rfl) sndL_law13_big_68_0
  · cases hp⟩
theorem cal_law13_big (g : Nat) : SoundA Try.prog g (evF cx_law13_big keeps 8 g) := evF_sound (tabOk_of tab_ok) (cmpsOk_of tab_ok cmps_ok) mixed in_law13_big hsp_law13_big keeps 8 g
noncomputable def g_law13_big (a0 : U) (a1 : Int) : Option Bool :=
  bif decide ((↑(List.length a0.2.2.2) : Int) > 4) then some true
 else
 bif decide ((↑(List.length a0.1) : Int) > 10) then some true
 else
 bif decide ((↑(List.length a0.2.1) : Int) > 10) then some true
 else
 optC (L_law13_big_68_0_0 (a1, 0, 0, a0)) none fun d4 ↦
 Sum.elim (fun e5 ↦ optC (G_ref8_Is (e5, ())) none fun d6 ↦ some !d6) (fun e5 ↦ some e5.1) d4
theorem raw_law13_big (a0 : U) (a1 : Int) : evGX cx_law13_big keeps 8 68 ash_law13_big (.dat .bool) ((a0, a1, ()) : (U × (Int × Unit))) = g_law13_big a0 a1 := by kernel_rfl
noncomputable def G_law13_big (x : (U × (Int × Unit))) : Option Bool := g_law13_big x.1 x.2.1
noncomputable def con_law13_big : List AV → Prog AV := conP true ash_law13_big (.dat .bool) G_law13_big
theorem snd_law13_big : SoundA Try.prog 68 con_law13_big := conP_sound (cal_law13_big 68) true (by rfl) (by rfl) (fun x r e => (evGX_eq _ _ _ _ _ _ _).trans ((raw_law13_big x.1 x.2.1).trans e)) (.inl rfl)
end Go.Proofs.Ytbdcblpjemmipaa.Ex

namespace Go.Proofs.Ytbdcblpjemmipaa.Ex
set_option maxRecDepth 100000
set_option maxHeartbeats 2000000
set_option linter.unusedVariables false
set_option linter.unusedSimpArgs false
noncomputable def bd_law13_big_68_0_0 (s1 : Int) (b0 : (List Int)) (b0_1 : (List Int)) (b0_2 : Int) (b0_3 : (List C)) (i : Nat) (s5 : Int) (d : C) : Option (Int ⊕ (((List Int) × (List Int) × Int × (List C)) ⊕ (Bool × (List Int) × (List Int) × Int × (List C)))) :=
  bif decide (Go.IntKind.i64.wrap (s5 + (↑(List.length d.2) : Int)) > s1) then
   some (Sum.inr (Sum.inr (true, b0, b0_1, b0_2, b0_3)))
 else some (Sum.inl (Go.IntKind.i64.wrap (s5 + (↑(List.length d.2) : Int))))
noncomputable def fn_law13_big_68_0_0 (s1 : Int) (b0 : (List Int)) (b0_1 : (List Int)) (b0_2 : Int) (b0_3 : (List C)) (s5 : Int) : Option (((List Int) × (List Int) × Int × (List C)) ⊕ (Bool × (List Int) × (List Int) × Int × (List C))) :=
  some (Sum.inl (b0, b0_1, b0_2, b0_3))
noncomputable abbrev rx_law13_big_68_0_0 (s1 : Int) (b0 : (List Int)) (b0_1 : (List Int)) (b0_2 : Int) (b0_3 : (List C)) (i : Nat) (s : Int) : (Int × Int × Int × (List Int) × (List Int) × Int × (List C)) := (s1, s, (i : Int), b0, b0_1, b0_2, b0_3)
noncomputable def rv_law13_big_68_0_0 (s1 : Int) (b0 : (List Int)) (b0_1 : (List Int)) (b0_2 : Int) (b0_3 : (List C)) (s : Int) : Option (((List Int) × (List Int) × Int × (List C)) ⊕ (Bool × (List Int) × (List Int) × Int × (List C))) := rangeO (fun i s d => bd_law13_big_68_0_0 s1 b0 b0_1 b0_2 b0_3 i s d) (fun s => fn_law13_big_68_0_0 s1 b0 b0_1 b0_2 b0_3 s) 0 b0_3 s
theorem rg_law13_big_68_0_0 (s1 : Int) (b0 : (List Int)) (b0_1 : (List Int)) (b0_2 : Int) (b0_3 : (List C)) (s : Int) (hl : b0_3.length < 9223372036854775807) : L_law13_big_68_0_0 (s1, s, 0, b0, b0_1, b0_2, b0_3) = rv_law13_big_68_0_0 s1 b0 b0_1 b0_2 b0_3 s := by
  unfold L_law13_big_68_0_0 rv_law13_big_68_0_0
  refine iterO_range0 b0_3 (rx_law13_big_68_0_0 s1 b0 b0_1 b0_2 b0_3) _ _ ?_ ?_ s (by unfold FUEL; omega)
  · intro i s d hi hd
    have e1 : decide ((i : Int) < (b0_3.length : Int)) = true := decide_eq_true (by omega)
    have e2 : decide (0 ≤ (i : Int)) = true := decide_eq_true (by omega)
    have e3 : Int.toNat (i : Int) = i := Int.toNat_natCast i
    have e4 := wrap_next hi (Nat.le_of_lt hl)
    show st_law13_big_68_0_0 (s1) (s) ((i : Int)) (b0) (b0_1) (b0_2) (b0_3) = upd _ (bd_law13_big_68_0_0 s1 b0 b0_1 b0_2 b0_3 i s d)
    unfold st_law13_big_68_0_0 bd_law13_big_68_0_0
    simp only [e1, e2, e3, e4, hd, cond_true, cond_false, optC_some, upd_cond, upd_optC, upd_elim, upd_inl, upd_inr, upd_none]
  · intro s
    have e1 : decide ((b0_3.length : Int) < (b0_3.length : Int)) = false := decide_eq_false (by omega)
    show st_law13_big_68_0_0 (s1) (s) ((b0_3.length : Int)) (b0) (b0_1) (b0_2) (b0_3) = _
    unfold st_law13_big_68_0_0 fn_law13_big_68_0_0
    rw [e1]
    rfl
end Go.Proofs.Ytbdcblpjemmipaa.Ex

namespace Go.Proofs.Ytbdcblpjemmipaa.Ex
open Go.Proofs Go.Proofs.Ytbdcblpjemmipaa
set_option maxRecDepth 100000
set_option maxHeartbeats 2000000
set_option linter.unusedVariables false
set_option linter.unusedSimpArgs false
def ash_ref12_arr : List Sh := [.dat tEn]
noncomputable def sp_ref12_arr : Nat → Option (List AV → Prog AV)
  | _ => none
theorem hsp_ref12_arr : ∀ g p, sp_ref12_arr g = some p → SoundA Try.prog g p := by
  intro g p h
  unfold sp_ref12_arr at h
  split at h
  · cases h
noncomputable def cx_ref12_arr : Ctx := { tab := tab, spec := sp_ref12_arr, inl := inl, lps := fun _ _ => none, fuel := 40 }
theorem in_ref12_arr : InlOk Try.prog cx_ref12_arr := ⟨inl_ok, fun _ _ _ _ _ _ _ _ h => nomatch h⟩
theorem cal_ref12_arr (g : Nat) : SoundA Try.prog g (evF cx_ref12_arr keeps 8 g) := evF_sound (tabOk_of tab_ok) (cmpsOk_of tab_ok cmps_ok) mixed in_ref12_arr hsp_ref12_arr keeps 8 g
noncomputable def g_ref12_arr (a0 : En) : Option Int :=
  bif a0.2.1 then some 1 else some 0
theorem raw_ref12_arr (a0 : En) : evGX cx_ref12_arr keeps 8 94 ash_ref12_arr (.dat (.int .i64)) ((a0, ()) : (En × Unit)) = g_ref12_arr a0 := by kernel_rfl
noncomputable def G_ref12_arr (x : (En × Unit)) : Option Int := g_ref12_arr x.1
noncomputable def con_ref12_arr : List AV → Prog AV := conP true ash_ref12_arr (.dat (.int .i64)) G_ref12_arr
theorem snd_ref12_arr : SoundA Try.prog 94 con_ref12_arr := conP_sound (cal_ref12_arr 94) true (by rfl) (by rfl) (fun x r e => (evGX_eq _ _ _ _ _ _ _).trans ((raw_ref12_arr x.1).trans e)) (.inl rfl)
end Go.Proofs.Ytbdcblpjemmipaa.Ex

namespace Go.Proofs.Ytbdcblpjemmipaa.Ex
open Go.Proofs Go.Proofs.Ytbdcblpjemmipaa
set_option maxRecDepth 100000
set_option maxHeartbeats 2000000
set_option linter.unusedVariables false
set_option linter.unusedSimpArgs false
abbrev ty_81_0 : Type := ((Unit × (Unit × (Int × Unit))) × ((List Int) × ((List Int) × Unit)))
abbrev fn_81_0 := (fun (d : ty_81_0) => ((d.1.2.2.1, d.2.1, d.2.2.1) : (Int × (List Int) × (List Int))))
def ash_ref12_order : List Sh := [.dat tEn, .dat tEn]
def kp_ref12_order_56_0 : Nat → List Nat := fun c => bif c.beq 0 then [5, 6, 7] else [4]
noncomputable def sp_ref12_order : Nat → Option (List AV → Prog AV)
  | 94 => some (con_ref12_arr)
  | _ => none
theorem hsp_ref12_order : ∀ g p, sp_ref12_order g = some p → SoundA Try.prog g p := by
  intro g p h
  unfold sp_ref12_order at h
  split at h
  · cases h; exact snd_ref12_arr
  · cases h
noncomputable def cx_ref12_order0 : Ctx := { tab := tab, spec := sp_ref12_order, inl := inl, lps := fun _ _ => none, fuel := 40 }
theorem in_ref12_order0 : InlOk Try.prog cx_ref12_order0 := ⟨inl_ok, fun _ _ _ _ _ _ _ _ h => nomatch h⟩
theorem cal_ref12_order0 (g : Nat) : SoundA Try.prog g (evF cx_ref12_order0 keeps 8 g) := evF_sound (tabOk_of tab_ok) (cmpsOk_of tab_ok cmps_ok) mixed in_ref12_order0 hsp_ref12_order keeps 8 g
noncomputable def F_ref12_order_56_0 (base : Nat) : Tm → Prog (Nat × Tm) := evC cx_ref12_order0 (evF cx_ref12_order0 keeps 8) ⟨56, 48, keeps 56, base⟩ 0 (bodyX 56 0)
def s_ref12_order_56_0_0 : StS := ⟨[(5, .row 0), (6, .row 1), (7, .int .i64)], [(0, .row (.int .i64)), (1, .row (.int .i64))], 2⟩
def x_ref12_order_56_0_0_0 : StS := ⟨[(4, .undef)], [], 0⟩
def x_ref12_order_56_0_0_1 : StS := ⟨[(4, .int .i64)], [], 0⟩
noncomputable def st_ref12_order_56_0_0 (s7 : Int) (b0 : (List Int)) (b1 : (List Int)) : Option ((Int × (List Int) × (List Int)) ⊕ (Unit ⊕ Int)) :=
  bif decide (s7 < 4) then
 bif decide (0 ≤ s7) then
 optC b0[s7.toNat]? none fun d5 ↦
 optC b0[s7.toNat]? none fun d6 ↦
 bif decide (0 ≤ s7) then
 optC b1[s7.toNat]? none fun d7 ↦
 optC b1[s7.toNat]? none fun d8 ↦
 bif decide (d6 < d8) then some (Sum.inr (Sum.inr (-1)))
 else
 bif decide (0 ≤ s7) then
 optC b0[s7.toNat]? none fun d9 ↦
 optC b0[s7.toNat]? none fun d10 ↦
 bif decide (0 ≤ s7) then
 optC b1[s7.toNat]? none fun d11 ↦
 optC b1[s7.toNat]? none fun d12 ↦
 bif decide (d10 > d12) then some (Sum.inr (Sum.inr 1)) else some (Sum.inl (Go.IntKind.i64.wrap (s7 + 1), b0, b1))
 else none
 else none
 else none
 else none
 else some (Sum.inr (Sum.inl PUnit.unit))
theorem rn_ref12_order_56_0_0 (s7 : Int) (b0 : (List Int)) (b1 : (List Int)) : rdX cx_ref12_order0 keeps 8 ⟨56, 48, keeps 56, 0⟩ 0 (bodyX 56 0) 0 kp_ref12_order_56_0 (sT s_ref12_order_56_0_0 (((), (), s7, ()), (b0, b1, ()))) (sH s_ref12_order_56_0_0 (((), (), s7, ()), (b0, b1, ()))) (rdO (fun T h => (rdS s_ref12_order_56_0_0 T h).map fn_81_0) (getOr (getE 2 x_ref12_order_56_0_0_0 (fun (d : ((Unit × Unit) × Unit)) => (() : Unit))) (getE 1 x_ref12_order_56_0_0_1 (fun (d : ((Int × Unit) × Unit)) => ((d.1.1) : Int))))) = st_ref12_order_56_0_0 s7 b0 b1 := by kernel_rfl
noncomputable def L_ref12_order_56_0_0 (x : (Int × (List Int) × (List Int))) : Option (Unit ⊕ Int) := iterO (fun x => st_ref12_order_56_0_0 x.1 x.2.1 x.2.2) FUEL x
noncomputable def q_ref12_order_56_0 : Nat → Tm → Prog (Nat × Tm) := (varP 0 (fun T h => (rdS s_ref12_order_56_0_0 T h).map fn_81_0) L_ref12_order_56_0_0 (fun y => .alt y (altE 2 x_ref12_order_56_0_0_0 (fun (x : Unit) => ((((), ()), ()) : ((Unit × Unit) × Unit)))) (altE 1 x_ref12_order_56_0_0_1 (fun (x : Int) => (((x, ()), ()) : ((Int × Unit) × Unit))))) (fun _ _ => .fail))
theorem ok_ref12_order_56_0 : VarOk kp_ref12_order_56_0 F_ref12_order_56_0 q_ref12_order_56_0 := (varX_ok (s := s_ref12_order_56_0_0) (un := (fun (x : (Int × (List Int) × (List Int))) => ((((), (), x.1, ()), (x.2.1, x.2.2, ())) : ty_81_0))) (by rfl) (fun _ => rfl) (getOr_ok (getE_ok (s := x_ref12_order_56_0_0_0) (un := (fun (x : Unit) => ((((), ()), ()) : ((Unit × Unit) × Unit)))) (by rfl) (fun _ => rfl)) (getE_ok (s := x_ref12_order_56_0_0_1) (un := (fun (x : Int) => (((x, ()), ()) : ((Int × Unit) × Unit)))) (by rfl) (fun _ => rfl))) (step := fun x => st_ref12_order_56_0_0 x.1 x.2.1 x.2.2) (fun x => rn_ref12_order_56_0_0 x.1 x.2.1 x.2.2) (fun _ _ e => ⟨_, e⟩) (altOr_ok (altE_ok 2 x_ref12_order_56_0_0_0 (fun (x : Unit) => ((((), ()), ()) : ((Unit × Unit) × Unit)))) (altE_ok 1 x_ref12_order_56_0_0_1 (fun (x : Int) => (((x, ()), ()) : ((Int × Unit) × Unit))))) (VarOk.fail _ _))
noncomputable def lpI_ref12_order_56_0 (base : Nat) (T : Tm) : Prog (Nat × Tm) := .norm base (kp_ref12_order_56_0 0) T (q_ref12_order_56_0 base)
theorem sndI_ref12_order_56_0 : SoundC Try.prog 48 (.loop (bodyX 56 0)) lpI_ref12_order_56_0 := loopK_sound (cx := cx_ref12_order0) (cal := evF cx_ref12_order0 keeps 8) (kp := keeps 56) (tabOk_of tab_ok) (cmpsOk_of tab_ok cmps_ok) cal_ref12_order0 mixed (hl_of (g := 56) (b := 0) in_ref12_order0 (by kernel_rfl) (by kernel_rfl)) ok_ref12_order_56_0
noncomputable def lpL_ref12_order_56_0 : Nat → Tm → Prog (Nat × Tm) := lpI_ref12_order_56_0
theorem sndL_ref12_order_56_0 : SoundC Try.prog 48 (.loop (bodyX 56 0)) lpL_ref12_order_56_0 := sndI_ref12_order_56_0
noncomputable def lp_ref12_order : Nat → Nat → Option (Nat → Tm → Prog (Nat × Tm))
  | 56, 0 => some lpL_ref12_order_56_0
  | _, _ => none
noncomputable def cx_ref12_order : Ctx := { tab := tab, spec := sp_ref12_order, inl := inl, lps := lp_ref12_order, fuel := 40 }
theorem in_ref12_order : InlOk Try.prog cx_ref12_order := ⟨inl_ok, fun g fn c hg hb q hq p hp => by
  change lp_ref12_order g q.1 = some p at hp
  change inl g = some fn at hg
  generalize hq1 : q.1 = b at hp
  unfold lp_ref12_order at hp
  split at hp
  · cases hp; exact lps_case (inl := inl) hg hb hq hq1 (by kernel_rfl) (by kernel_rfl) sndL_ref12_order_56_0
  · cases hp⟩
theorem cal_ref12_order (g : Nat) : SoundA Try.prog g (evF cx_ref12_order keeps 8 g) := evF_sound (tabOk_of tab_ok) (cmpsOk_of tab_ok cmps_ok) mixed in_ref12_order hsp_ref12_order keeps 8 g
noncomputable def g_ref12_order (a0 : En) (a1 : En) : Option Int :=
  optC (G_ref12_arr (a0, ())) none fun d4 ↦
 optC (G_ref12_arr (a1, ())) none fun d5 ↦
 optC (L_ref12_order_56_0_0 (0, [a0.1, d4, a0.2.2.1, a0.2.2.2.1], [a1.1, d5, a1.2.2.1, a1.2.2.2.1])) none fun d6 ↦
 Sum.elim (fun e7 ↦ some 0) (fun e7 ↦ some e7) d6
theorem raw_ref12_order (a0 : En) (a1 : En) : evGX cx_ref12_order keeps 8 56 ash_ref12_order (.dat (.int .i64)) ((a0, a1, ()) : (En × (En × Unit))) = g_ref12_order a0 a1 := by kernel_rfl
noncomputable def G_ref12_order (x : (En × (En × Unit))) : Option Int := g_ref12_order x.1 x.2.1
noncomputable def con_ref12_order : List AV → Prog AV := conP true ash_ref12_order (.dat (.int .i64)) G_ref12_order
theorem snd_ref12_order : SoundA Try.prog 56 con_ref12_order := conP_sound (cal_ref12_order 56) true (by rfl) (by rfl) (fun x r e => (evGX_eq _ _ _ _ _ _ _).trans ((raw_ref12_order x.1 x.2.1).trans e)) (.inl rfl)
end Go.Proofs.Ytbdcblpjemmipaa.Ex

namespace Go.Proofs.Ytbdcblpjemmipaa.Ex
open Go.Proofs Go.Proofs.Ytbdcblpjemmipaa
set_option maxRecDepth 100000
set_option maxHeartbeats 2000000
set_option linter.unusedVariables false
set_option linter.unusedSimpArgs false
abbrev fn_82_0 := (fun (d : (((List En) × (Int × Unit)) × Unit)) => ((d.1.1, d.1.2.1) : ((List En) × Int)))
def ash_ref12_Is : List Sh := [.dat (.sl tEn)]
def kp_ref12_Is_21_0 : Nat → List Nat := fun c => bif c.beq 0 then [0, 3] else [2]
noncomputable def sp_ref12_Is : Nat → Option (List AV → Prog AV)
  | 19 => some (con_ref2_Is)
  | 49 => some (con_ref2_Empty)
  | 56 => some (con_ref12_order)
  | _ => none
theorem hsp_ref12_Is : ∀ g p, sp_ref12_Is g = some p → SoundA Try.prog g p := by
  intro g p h
  unfold sp_ref12_Is at h
  split at h
  · cases h; exact snd_ref2_Is
  · cases h; exact snd_ref2_Empty
  · cases h; exact snd_ref12_order
  · cases h
noncomputable def cx_ref12_Is0 : Ctx := { tab := tab, spec := sp_ref12_Is, inl := inl, lps := fun _ _ => none, fuel := 40 }
theorem in_ref12_Is0 : InlOk Try.prog cx_ref12_Is0 := ⟨inl_ok, fun _ _ _ _ _ _ _ _ h => nomatch h⟩
theorem cal_ref12_Is0 (g : Nat) : SoundA Try.prog g (evF cx_ref12_Is0 keeps 8 g) := evF_sound (tabOk_of tab_ok) (cmpsOk_of tab_ok cmps_ok) mixed in_ref12_Is0 hsp_ref12_Is keeps 8 g
noncomputable def F_ref12_Is_21_0 (base : Nat) : Tm → Prog (Nat × Tm) := evC cx_ref12_Is0 (evF cx_ref12_Is0 keeps 8) ⟨21, 58, keeps 21, base⟩ 0 (bodyX 21 0)
def s_ref12_Is_21_0_0 : StS := ⟨[(0, .sl tEn), (3, .int .i64)], [], 0⟩
def x_ref12_Is_21_0_0_0 : StS := ⟨[(2, .undef)], [], 0⟩
def x_ref12_Is_21_0_0_1 : StS := ⟨[(2, .bool)], [], 0⟩
noncomputable def st_ref12_Is_21_0_0 (s0 : (List En)) (s3 : Int) : Option (((List En) × Int) ⊕ (Unit ⊕ Bool)) :=
  bif decide (s3 < (↑s0.length : Int)) then
 bif decide (0 ≤ s3) then
 optC s0[s3.toNat]? none fun d4 ↦
 optC (G_ref2_Is (d4.2.2.2.2, ())) none fun d5 ↦
 bif !d5 then some (Sum.inr (Sum.inr false))
 else
 bif decide (0 ≤ s3) then
 optC s0[s3.toNat]? none fun d6 ↦
 bif decide (d6.2.2.2.2.1 > d6.2.2.2.2.2) then some (Sum.inr (Sum.inr false))
 else
 bif decide (0 ≤ s3) then
 optC s0[s3.toNat]? none fun d7 ↦
 bif decide (d7.2.2.2.1 < 0) then some (Sum.inr (Sum.inr false))
 else
 bif decide (0 ≤ s3) then
 optC s0[s3.toNat]? none fun d8 ↦
 bif decide (d8.2.2.2.1 ≥ 2147483648) then some (Sum.inr (Sum.inr false))
 else
 bif decide (s3 > 0) then
 bif decide (0 ≤ Go.IntKind.i64.wrap (s3 - 1)) then
 optC s0[(Go.IntKind.i64.wrap (s3 - 1)).toNat]? none fun d9 ↦
 bif decide (0 ≤ s3) then
 optC s0[s3.toNat]? none fun d10 ↦
 optC (G_ref12_order (d9, d10, ())) none fun d11 ↦
 bif decide (d11 ≥ 0) then some (Sum.inr (Sum.inr false)) else some (Sum.inl (s0, Go.IntKind.i64.wrap (s3 + 1)))
 else none
 else none
 else some (Sum.inl (s0, Go.IntKind.i64.wrap (s3 + 1)))
 else none
 else none
 else none
 else none
 else some (Sum.inr (Sum.inl PUnit.unit))
theorem rn_ref12_Is_21_0_0 (s0 : (List En)) (s3 : Int) : rdX cx_ref12_Is0 keeps 8 ⟨21, 58, keeps 21, 0⟩ 0 (bodyX 21 0) 0 kp_ref12_Is_21_0 (sT s_ref12_Is_21_0_0 ((s0, s3, ()), ())) (sH s_ref12_Is_21_0_0 ((s0, s3, ()), ())) (rdO (fun T h => (rdS s_ref12_Is_21_0_0 T h).map fn_82_0) (getOr (getE 2 x_ref12_Is_21_0_0_0 (fun (d : ((Unit × Unit) × Unit)) => (() : Unit))) (getE 1 x_ref12_Is_21_0_0_1 (fun (d : ((Bool × Unit) × Unit)) => ((d.1.1) : Bool))))) = st_ref12_Is_21_0_0 s0 s3 := by kernel_rfl
noncomputable def L_ref12_Is_21_0_0 (x : ((List En) × Int)) : Option (Unit ⊕ Bool) := iterO (fun x => st_ref12_Is_21_0_0 x.1 x.2) FUEL x
noncomputable def q_ref12_Is_21_0 : Nat → Tm → Prog (Nat × Tm) := (varP 0 (fun T h => (rdS s_ref12_Is_21_0_0 T h).map fn_82_0) L_ref12_Is_21_0_0 (fun y => .alt y (altE 2 x_ref12_Is_21_0_0_0 (fun (x : Unit) => ((((), ()), ()) : ((Unit × Unit) × Unit)))) (altE 1 x_ref12_Is_21_0_0_1 (fun (x : Bool) => (((x, ()), ()) : ((Bool × Unit) × Unit))))) (fun _ _ => .fail))
theorem ok_ref12_Is_21_0 : VarOk kp_ref12_Is_21_0 F_ref12_Is_21_0 q_ref12_Is_21_0 := (varX_ok (s := s_ref12_Is_21_0_0) (un := (fun (x : ((List En) × Int)) => (((x.1, x.2, ()), ()) : (((List En) × (Int × Unit)) × Unit)))) (by rfl) (fun _ => rfl) (getOr_ok (getE_ok (s := x_ref12_Is_21_0_0_0) (un := (fun (x : Unit) => ((((), ()), ()) : ((Unit × Unit) × Unit)))) (by rfl) (fun _ => rfl)) (getE_ok (s := x_ref12_Is_21_0_0_1) (un := (fun (x : Bool) => (((x, ()), ()) : ((Bool × Unit) × Unit)))) (by rfl) (fun _ => rfl))) (step := fun x => st_ref12_Is_21_0_0 x.1 x.2) (fun x => rn_ref12_Is_21_0_0 x.1 x.2) (fun _ _ e => ⟨_, e⟩) (altOr_ok (altE_ok 2 x_ref12_Is_21_0_0_0 (fun (x : Unit) => ((((), ()), ()) : ((Unit × Unit) × Unit)))) (altE_ok 1 x_ref12_Is_21_0_0_1 (fun (x : Bool) => (((x, ()), ()) : ((Bool × Unit) × Unit))))) (VarOk.fail _ _))
noncomputable def lpI_ref12_Is_21_0 (base : Nat) (T : Tm) : Prog (Nat × Tm) := .norm base (kp_ref12_Is_21_0 0) T (q_ref12_Is_21_0 base)
theorem sndI_ref12_Is_21_0 : SoundC Try.prog 58 (.loop (bodyX 21 0)) lpI_ref12_Is_21_0 := loopK_sound (cx := cx_ref12_Is0) (cal := evF cx_ref12_Is0 keeps 8) (kp := keeps 21) (tabOk_of tab_ok) (cmpsOk_of tab_ok cmps_ok) cal_ref12_Is0 mixed (hl_of (g := 21) (b := 0) in_ref12_Is0 (by kernel_rfl) (by kernel_rfl)) ok_ref12_Is_21_0
noncomputable def lpL_ref12_Is_21_0 : Nat → Tm → Prog (Nat × Tm) := lpI_ref12_Is_21_0
theorem sndL_ref12_Is_21_0 : SoundC Try.prog 58 (.loop (bodyX 21 0)) lpL_ref12_Is_21_0 := sndI_ref12_Is_21_0
noncomputable def lp_ref12_Is : Nat → Nat → Option (Nat → Tm → Prog (Nat × Tm))
  | 21, 0 => some lpL_ref12_Is_21_0
  | _, _ => none
noncomputable def cx_ref12_Is : Ctx := { tab := tab, spec := sp_ref12_Is, inl := inl, lps := lp_ref12_Is, fuel := 40 }
theorem in_ref12_Is : InlOk Try.prog cx_ref12_Is := ⟨inl_ok, fun g fn c hg hb q hq p hp => by
  change lp_ref12_Is g q.1 = some p at hp
  change inl g = some fn at hg
  generalize hq1 : q.1 = b at hp
  unfold lp_ref12_Is at hp
  split at hp
  · cases hp; exact lps_case (inl := inl) hg hb hq hq1 (by kernel_rfl) (by kernel_rfl) sndL_ref12_Is_21_0
  · cases hp⟩
theorem cal_ref12_Is (g : Nat) : SoundA Try.prog g (evF cx_ref12_Is keeps 8 g) := evF_sound (tabOk_of tab_ok) (cmpsOk_of tab_ok cmps_ok) mixed in_ref12_Is hsp_ref12_Is keeps 8 g
noncomputable def g_ref12_Is (a0 : (List En)) : Option Bool :=
  optC (L_ref12_Is_21_0_0 (a0, 0)) none fun d3 ↦ Sum.elim (fun e4 ↦ some true) (fun e4 ↦ some e4) d3
theorem raw_ref12_Is (a0 : (List En)) : evGX cx_ref12_Is keeps 8 21 ash_ref12_Is (.dat .bool) ((a0, ()) : ((List En) × Unit)) = g_ref12_Is a0 := by kernel_rfl
noncomputable def G_ref12_Is (x : ((List En) × Unit)) : Option Bool := g_ref12_Is x.1
noncomputable def con_ref12_Is : List AV → Prog AV := conP true ash_ref12_Is (.dat .bool) G_ref12_Is
theorem snd_ref12_Is : SoundA Try.prog 21 con_ref12_Is := conP_sound (cal_ref12_Is 21) true (by rfl) (by rfl) (fun x r e => (evGX_eq _ _ _ _ _ _ _).trans ((raw_ref12_Is x.1).trans e)) (.inl rfl)
end Go.Proofs.Ytbdcblpjemmipaa.Ex

namespace Go.Proofs.Ytbdcblpjemmipaa.Ex
set_option maxRecDepth 100000
set_option maxHeartbeats 2000000
set_option linter.unusedVariables false
set_option linter.unusedSimpArgs false
noncomputable def bd_ref12_Is_21_0_0  (s0 : (List En)) (i : Nat)  (d : En) : Option (Unit ⊕ (Unit ⊕ Bool)) :=
  optC (G_ref2_Is (d.2.2.2.2, ())) (none) fun d5 ↦
   bif !d5 then
   some (Sum.inr (Sum.inr false))
 else bif decide (d.2.2.2.2.1 > d.2.2.2.2.2) then
   some (Sum.inr (Sum.inr false))
 else bif decide (d.2.2.2.1 < 0) then
   some (Sum.inr (Sum.inr false))
 else bif decide (d.2.2.2.1 ≥ 2147483648) then
   some (Sum.inr (Sum.inr false))
 else bif decide ((i : Int) > 0) then
   bif decide (0 ≤ Go.IntKind.i64.wrap ((i : Int) - 1)) then
   optC s0[(Go.IntKind.i64.wrap ((i : Int) - 1)).toNat]? (none) fun d9 ↦
   optC (G_ref12_order (d9, d, ())) (none) fun d11 ↦
   bif decide (d11 ≥ 0) then
   some (Sum.inr (Sum.inr false))
 else some (Sum.inl ())
 else none
 else some (Sum.inl ())
noncomputable def fn_ref12_Is_21_0_0  (s0 : (List En))  : Option (Unit ⊕ Bool) :=
  some (Sum.inl PUnit.unit)
noncomputable abbrev rx_ref12_Is_21_0_0  (s0 : (List En)) (i : Nat) (s : Unit) : ((List En) × Int) := (s0, (i : Int))
noncomputable def rv_ref12_Is_21_0_0  (s0 : (List En)) (s : Unit) : Option (Unit ⊕ Bool) := rangeO (fun i s d => bd_ref12_Is_21_0_0  s0 i  d) (fun s => fn_ref12_Is_21_0_0  s0 ) 0 s0 s
theorem rg_ref12_Is_21_0_0  (s0 : (List En)) (s : Unit) (hl : s0.length < 9223372036854775807) : L_ref12_Is_21_0_0 (s0, 0) = rv_ref12_Is_21_0_0  s0 s := by
  unfold L_ref12_Is_21_0_0 rv_ref12_Is_21_0_0
  refine iterO_range0 s0 (rx_ref12_Is_21_0_0  s0) _ _ ?_ ?_ s (by unfold FUEL; omega)
  · intro i s d hi hd
    have e1 : decide ((i : Int) < (s0.length : Int)) = true := decide_eq_true (by omega)
    have e2 : decide (0 ≤ (i : Int)) = true := decide_eq_true (by omega)
    have e3 : Int.toNat (i : Int) = i := Int.toNat_natCast i
    have e4 := wrap_next hi (Nat.le_of_lt hl)
    show st_ref12_Is_21_0_0 (s0) ((i : Int)) = upd _ (bd_ref12_Is_21_0_0  s0 i  d)
    unfold st_ref12_Is_21_0_0 bd_ref12_Is_21_0_0
    simp only [e1, e2, e3, e4, hd, cond_true, cond_false, optC_some, upd_cond, upd_optC, upd_elim, upd_inl, upd_inr, upd_none]
  · intro s
    have e1 : decide ((s0.length : Int) < (s0.length : Int)) = false := decide_eq_false (by omega)
    show st_ref12_Is_21_0_0 (s0) ((s0.length : Int)) = _
    unfold st_ref12_Is_21_0_0 fn_ref12_Is_21_0_0
    rw [e1]
    rfl
end Go.Proofs.Ytbdcblpjemmipaa.Ex

namespace Go.Proofs.Ytbdcblpjemmipaa.Ex
open Go.Proofs Go.Proofs.Ytbdcblpjemmipaa
set_option maxRecDepth 100000
set_option maxHeartbeats 2000000
set_option linter.unusedVariables false
set_option linter.unusedSimpArgs false
abbrev fn_84_0 := (fun (d : ((Unit × (Int × Unit)) × ((List I) × Unit))) => ((d.1.2.1, d.2.1) : (Int × (List I))))
def ash_ref11_Fits : List Sh := [.dat tU, .dat (.int .i64), .dat tE]
def kp_ref11_Fits_69_0 : Nat → List Nat := fun c => bif c.beq 0 then [7, 8] else [6]
noncomputable def sp_ref11_Fits : Nat → Option (List AV → Prog AV)
  | 19 => some (con_ref2_Is)
  | 49 => some (con_ref2_Empty)
  | _ => none
theorem hsp_ref11_Fits : ∀ g p, sp_ref11_Fits g = some p → SoundA Try.prog g p := by
  intro g p h
  unfold sp_ref11_Fits at h
  split at h
  · cases h; exact snd_ref2_Is
  · cases h; exact snd_ref2_Empty
  · cases h
noncomputable def cx_ref11_Fits0 : Ctx := { tab := tab, spec := sp_ref11_Fits, inl := inl, lps := fun _ _ => none, fuel := 40 }
theorem in_ref11_Fits0 : InlOk Try.prog cx_ref11_Fits0 := ⟨inl_ok, fun _ _ _ _ _ _ _ _ h => nomatch h⟩
theorem cal_ref11_Fits0 (g : Nat) : SoundA Try.prog g (evF cx_ref11_Fits0 keeps 8 g) := evF_sound (tabOk_of tab_ok) (cmpsOk_of tab_ok cmps_ok) mixed in_ref11_Fits0 hsp_ref11_Fits keeps 8 g
noncomputable def F_ref11_Fits_69_0 (base : Nat) : Tm → Prog (Nat × Tm) := evC cx_ref11_Fits0 (evF cx_ref11_Fits0 keeps 8) ⟨69, 86, keeps 69, base⟩ 0 (bodyX 69 0)
def s_ref11_Fits_69_0_0 : StS := ⟨[(7, .row 0), (8, .int .i64)], [(0, .row tI)], 1⟩
def x_ref11_Fits_69_0_0_0 : StS := ⟨[(6, .undef)], [], 0⟩
def x_ref11_Fits_69_0_0_1 : StS := ⟨[(6, .bool)], [], 0⟩
noncomputable def st_ref11_Fits_69_0_0 (s8 : Int) (b0 : (List I)) : Option ((Int × (List I)) ⊕ (Unit ⊕ Bool)) :=
  bif decide (s8 < (↑b0.length : Int)) then
 bif decide (0 ≤ s8) then
 optC b0[s8.toNat]? none fun d4 ↦
 optC b0[s8.toNat]? none fun d5 ↦
 optC (G_ref2_Is (d5, ())) none fun d6 ↦
 bif !d6 then some (Sum.inr (Sum.inr false))
 else
 bif decide (0 ≤ s8) then
 optC b0[s8.toNat]? none fun d7 ↦
 optC b0[s8.toNat]? none fun d8 ↦
 bif decide (d8.1 > d8.2) then some (Sum.inr (Sum.inr false)) else some (Sum.inl (Go.IntKind.i64.wrap (s8 + 1), b0))
 else none
 else none
 else some (Sum.inr (Sum.inl PUnit.unit))
theorem rn_ref11_Fits_69_0_0 (s8 : Int) (b0 : (List I)) : rdX cx_ref11_Fits0 keeps 8 ⟨69, 86, keeps 69, 0⟩ 0 (bodyX 69 0) 0 kp_ref11_Fits_69_0 (sT s_ref11_Fits_69_0_0 (((), s8, ()), (b0, ()))) (sH s_ref11_Fits_69_0_0 (((), s8, ()), (b0, ()))) (rdO (fun T h => (rdS s_ref11_Fits_69_0_0 T h).map fn_84_0) (getOr (getE 2 x_ref11_Fits_69_0_0_0 (fun (d : ((Unit × Unit) × Unit)) => (() : Unit))) (getE 1 x_ref11_Fits_69_0_0_1 (fun (d : ((Bool × Unit) × Unit)) => ((d.1.1) : Bool))))) = st_ref11_Fits_69_0_0 s8 b0 := by kernel_rfl
noncomputable def L_ref11_Fits_69_0_0 (x : (Int × (List I))) : Option (Unit ⊕ Bool) := iterO (fun x => st_ref11_Fits_69_0_0 x.1 x.2) FUEL x
noncomputable def q_ref11_Fits_69_0 : Nat → Tm → Prog (Nat × Tm) := (varP 0 (fun T h => (rdS s_ref11_Fits_69_0_0 T h).map fn_84_0) L_ref11_Fits_69_0_0 (fun y => .alt y (altE 2 x_ref11_Fits_69_0_0_0 (fun (x : Unit) => ((((), ()), ()) : ((Unit × Unit) × Unit)))) (altE 1 x_ref11_Fits_69_0_0_1 (fun (x : Bool) => (((x, ()), ()) : ((Bool × Unit) × Unit))))) (fun _ _ => .fail))
theorem ok_ref11_Fits_69_0 : VarOk kp_ref11_Fits_69_0 F_ref11_Fits_69_0 q_ref11_Fits_69_0 := (varX_ok (s := s_ref11_Fits_69_0_0) (un := (fun (x : (Int × (List I))) => ((((), x.1, ()), (x.2, ())) : ((Unit × (Int × Unit)) × ((List I) × Unit))))) (by rfl) (fun _ => rfl) (getOr_ok (getE_ok (s := x_ref11_Fits_69_0_0_0) (un := (fun (x : Unit) => ((((), ()), ()) : ((Unit × Unit) × Unit)))) (by rfl) (fun _ => rfl)) (getE_ok (s := x_ref11_Fits_69_0_0_1) (un := (fun (x : Bool) => (((x, ()), ()) : ((Bool × Unit) × Unit)))) (by rfl) (fun _ => rfl))) (step := fun x => st_ref11_Fits_69_0_0 x.1 x.2) (fun x => rn_ref11_Fits_69_0_0 x.1 x.2) (fun _ _ e => ⟨_, e⟩) (altOr_ok (altE_ok 2 x_ref11_Fits_69_0_0_0 (fun (x : Unit) => ((((), ()), ()) : ((Unit × Unit) × Unit)))) (altE_ok 1 x_ref11_Fits_69_0_0_1 (fun (x : Bool) => (((x, ()), ()) : ((Bool × Unit) × Unit))))) (VarOk.fail _ _))
noncomputable def lpI_ref11_Fits_69_0 (base : Nat) (T : Tm) : Prog (Nat × Tm) := .norm base (kp_ref11_Fits_69_0 0) T (q_ref11_Fits_69_0 base)
theorem sndI_ref11_Fits_69_0 : SoundC Try.prog 86 (.loop (bodyX 69 0)) lpI_ref11_Fits_69_0 := loopK_sound (cx := cx_ref11_Fits0) (cal := evF cx_ref11_Fits0 keeps 8) (kp := keeps 69) (tabOk_of tab_ok) (cmpsOk_of tab_ok cmps_ok) cal_ref11_Fits0 mixed (hl_of (g := 69) (b := 0) in_ref11_Fits0 (by kernel_rfl) (by kernel_rfl)) ok_ref11_Fits_69_0
noncomputable def lpL_ref11_Fits_69_0 : Nat → Tm → Prog (Nat × Tm) := lpI_ref11_Fits_69_0
theorem sndL_ref11_Fits_69_0 : SoundC Try.prog 86 (.loop (bodyX 69 0)) lpL_ref11_Fits_69_0 := sndI_ref11_Fits_69_0
noncomputable def lp_ref11_Fits : Nat → Nat → Option (Nat → Tm → Prog (Nat × Tm))
  | 69, 0 => some lpL_ref11_Fits_69_0
  | _, _ => none
noncomputable def cx_ref11_Fits : Ctx := { tab := tab, spec := sp_ref11_Fits, inl := inl, lps := lp_ref11_Fits, fuel := 40 }
theorem in_ref11_Fits : InlOk Try.prog cx_ref11_Fits := ⟨inl_ok, fun g fn c hg hb q hq p hp => by
  change lp_ref11_Fits g q.1 = some p at hp
  change inl g = some fn at hg
  generalize hq1 : q.1 = b at hp
  unfold lp_ref11_Fits at hp
  split at hp
  · cases hp; exact lps_case (inl := inl) hg hb hq hq1 (by kernel_rfl) (by kernel_rfl) sndL_ref11_Fits_69_0
  · cases hp⟩
theorem cal_ref11_Fits (g : Nat) : SoundA Try.prog g (evF cx_ref11_Fits keeps 8 g) := evF_sound (tabOk_of tab_ok) (cmpsOk_of tab_ok cmps_ok) mixed in_ref11_Fits hsp_ref11_Fits keeps 8 g
noncomputable def g_ref11_Fits (a0 : U) (a1 : Int) (a2 : E) : Option Bool :=
  bif decide (0 ≤ a1) then
 optC a0.2.2.2[a1.toNat]? none fun d5 ↦
 bif (↑(List.length a2.2.1) : Int) != d5.1 then some false
 else
 bif (↑(List.length a2.2.2.1) : Int) != (↑(List.length a0.1) : Int) then some false
 else
 bif (↑(List.length a2.2.2.2.1) : Int) != (↑(List.length a0.2.1) : Int) then some false
 else
 bif decide (a2.2.2.2.2.1 < 0) then some false
 else
 bif decide (a2.2.2.2.2.2 < 0) then some false
 else
 bif decide (a2.2.2.2.2.1 ≥ 2147483648) then some false
 else
 bif decide (a2.2.2.2.2.2 ≥ 2147483648) then some false
 else
 bif decide (((List.length (α := I) []) + List.length a2.2.1 + 1) * 16 ≤ lim) then
 bif decide ((([] ++ a2.2.1).length + List.length a2.2.2.1 + 1) * 16 ≤ lim) then
 bif decide ((([] ++ a2.2.1 ++ a2.2.2.1).length + List.length a2.2.2.2.1 + 1) * 16 ≤ lim) then
 optC (L_ref11_Fits_69_0_0 (0, [] ++ a2.2.1 ++ a2.2.2.1 ++ a2.2.2.2.1)) none fun d6 ↦
 Sum.elim (fun e7 ↦ some true) (fun e7 ↦ some e7) d6
 else none
 else none
 else none
 else none
theorem raw_ref11_Fits (a0 : U) (a1 : Int) (a2 : E) : evGX cx_ref11_Fits keeps 8 69 ash_ref11_Fits (.dat .bool) ((a0, a1, a2, ()) : (U × (Int × (E × Unit)))) = g_ref11_Fits a0 a1 a2 := by kernel_rfl
noncomputable def G_ref11_Fits (x : (U × (Int × (E × Unit)))) : Option Bool := g_ref11_Fits x.1 x.2.1 x.2.2.1
noncomputable def con_ref11_Fits : List AV → Prog AV := conP true ash_ref11_Fits (.dat .bool) G_ref11_Fits
theorem snd_ref11_Fits : SoundA Try.prog 69 con_ref11_Fits := conP_sound (cal_ref11_Fits 69) true (by rfl) (by rfl) (fun x r e => (evGX_eq _ _ _ _ _ _ _).trans ((raw_ref11_Fits x.1 x.2.1 x.2.2.1).trans e)) (.inl rfl)
end Go.Proofs.Ytbdcblpjemmipaa.Ex

namespace Go.Proofs.Ytbdcblpjemmipaa.Ex
set_option maxRecDepth 100000
set_option maxHeartbeats 2000000
set_option linter.unusedVariables false
set_option linter.unusedSimpArgs false
noncomputable def bd_ref11_Fits_69_0_0  (b0 : (List I)) (i : Nat)  (d : I) : Option (Unit ⊕ (Unit ⊕ Bool)) :=
  optC (G_ref2_Is (d, ())) (none) fun d6 ↦
   bif !d6 then
   some (Sum.inr (Sum.inr false))
 else bif decide (d.1 > d.2) then
   some (Sum.inr (Sum.inr false))
 else some (Sum.inl ())
noncomputable def fn_ref11_Fits_69_0_0  (b0 : (List I))  : Option (Unit ⊕ Bool) :=
  some (Sum.inl PUnit.unit)
noncomputable abbrev rx_ref11_Fits_69_0_0  (b0 : (List I)) (i : Nat) (s : Unit) : (Int × (List I)) := ((i : Int), b0)
noncomputable def rv_ref11_Fits_69_0_0  (b0 : (List I)) (s : Unit) : Option (Unit ⊕ Bool) := rangeO (fun i s d => bd_ref11_Fits_69_0_0  b0 i  d) (fun s => fn_ref11_Fits_69_0_0  b0 ) 0 b0 s
theorem rg_ref11_Fits_69_0_0  (b0 : (List I)) (s : Unit) (hl : b0.length < 9223372036854775807) : L_ref11_Fits_69_0_0 (0, b0) = rv_ref11_Fits_69_0_0  b0 s := by
  unfold L_ref11_Fits_69_0_0 rv_ref11_Fits_69_0_0
  refine iterO_range0 b0 (rx_ref11_Fits_69_0_0  b0) _ _ ?_ ?_ s (by unfold FUEL; omega)
  · intro i s d hi hd
    have e1 : decide ((i : Int) < (b0.length : Int)) = true := decide_eq_true (by omega)
    have e2 : decide (0 ≤ (i : Int)) = true := decide_eq_true (by omega)
    have e3 : Int.toNat (i : Int) = i := Int.toNat_natCast i
    have e4 := wrap_next hi (Nat.le_of_lt hl)
    show st_ref11_Fits_69_0_0 ((i : Int)) (b0) = upd _ (bd_ref11_Fits_69_0_0  b0 i  d)
    unfold st_ref11_Fits_69_0_0 bd_ref11_Fits_69_0_0
    simp only [e1, e2, e3, e4, hd, cond_true, cond_false, optC_some, upd_cond, upd_optC, upd_elim, upd_inl, upd_inr, upd_none]
  · intro s
    have e1 : decide ((b0.length : Int) < (b0.length : Int)) = false := decide_eq_false (by omega)
    show st_ref11_Fits_69_0_0 ((b0.length : Int)) (b0) = _
    unfold st_ref11_Fits_69_0_0 fn_ref11_Fits_69_0_0
    rw [e1]
    rfl
end Go.Proofs.Ytbdcblpjemmipaa.Ex

namespace Go.Proofs.Ytbdcblpjemmipaa.Ex
open Go.Proofs Go.Proofs.Ytbdcblpjemmipaa
set_option maxRecDepth 100000
set_option maxHeartbeats 2000000
set_option linter.unusedVariables false
set_option linter.unusedSimpArgs false
def ash_law13_asked : List Sh := [.dat tU, .dat (.int .i64), .dat tE, .dat (.sl tEn)]
noncomputable def sp_law13_asked : Nat → Option (List AV → Prog AV)
  | 68 => some (con_law13_big)
  | 69 => some (con_ref11_Fits)
  | 21 => some (con_ref12_Is)
  | _ => none
theorem hsp_law13_asked : ∀ g p, sp_law13_asked g = some p → SoundA Try.prog g p := by
  intro g p h
  unfold sp_law13_asked at h
  split at h
  · cases h; exact snd_law13_big
  · cases h; exact snd_ref11_Fits
  · cases h; exact snd_ref12_Is
  · cases h
noncomputable def cx_law13_asked : Ctx := { tab := tab, spec := sp_law13_asked, inl := inl, lps := fun _ _ => none, fuel := 40 }
theorem in_law13_asked : InlOk Try.prog cx_law13_asked := ⟨inl_ok, fun _ _ _ _ _ _ _ _ h => nomatch h⟩
theorem cal_law13_asked (g : Nat) : SoundA Try.prog g (evF cx_law13_asked keeps 8 g) := evF_sound (tabOk_of tab_ok) (cmpsOk_of tab_ok cmps_ok) mixed in_law13_asked hsp_law13_asked keeps 8 g
noncomputable def g_law13_asked (a0 : U) (a1 : Int) (a2 : E) (a3 : (List En)) : Option Bool :=
  optC (G_law13_big (a0, 100, ())) none fun d5 ↦
 bif !d5 then
 bif decide (a1 ≥ 0) then
 bif decide (a1 < (↑(List.length a0.2.2.2) : Int)) then
 bif !a2.1 then bif decide ((↑a3.length : Int) ≤ 60) then optC (G_ref12_Is (a3, ())) none fun d6 ↦ some d6 else some false
 else
 optC (G_ref11_Fits (a0, a1, a2, ())) none fun d6 ↦
 bif d6 then bif decide ((↑a3.length : Int) ≤ 60) then optC (G_ref12_Is (a3, ())) none fun d7 ↦ some d7 else some false
 else some false
 else some false
 else some false
 else some false
theorem raw_law13_asked (a0 : U) (a1 : Int) (a2 : E) (a3 : (List En)) : evGX cx_law13_asked keeps 8 31 ash_law13_asked (.dat .bool) ((a0, a1, a2, a3, ()) : (U × (Int × (E × ((List En) × Unit))))) = g_law13_asked a0 a1 a2 a3 := by kernel_rfl
noncomputable def G_law13_asked (x : (U × (Int × (E × ((List En) × Unit))))) : Option Bool := g_law13_asked x.1 x.2.1 x.2.2.1 x.2.2.2.1
noncomputable def con_law13_asked : List AV → Prog AV := conP true ash_law13_asked (.dat .bool) G_law13_asked
theorem snd_law13_asked : SoundA Try.prog 31 con_law13_asked := conP_sound (cal_law13_asked 31) true (by rfl) (by rfl) (fun x r e => (evGX_eq _ _ _ _ _ _ _).trans ((raw_law13_asked x.1 x.2.1 x.2.2.1 x.2.2.2.1).trans e)) (.inl rfl)
end Go.Proofs.Ytbdcblpjemmipaa.Ex

namespace Go.Proofs.Ytbdcblpjemmipaa.Ex
set_option maxRecDepth 100000
set_option linter.unusedVariables false
set_option linter.unusedSimpArgs false
theorem big_loop (most : Int) (U0 : List Int) (U1 : List Int) (U2 : Int) (U3 : List C) : ∀ (l : List C) (i : Nat) (s : Int),
    rangeO (fun i s d => bd_law13_big_68_0_0 most U0 U1 U2 U3 i s d) (fun s => fn_law13_big_68_0_0 most U0 U1 U2 U3 s) i l s = some (.inl (U0, U1, U2, U3)) ∨
    rangeO (fun i s d => bd_law13_big_68_0_0 most U0 U1 U2 U3 i s d) (fun s => fn_law13_big_68_0_0 most U0 U1 U2 U3 s) i l s = some (.inr (true, U0, U1, U2, U3))
  | [], i, s => .inl rfl
  | d :: r, i, s => by
    simp only [rangeO]
    have h : bd_law13_big_68_0_0 most U0 U1 U2 U3 i s d = bif decide (IntKind.i64.wrap (s + (d.2.length : Int)) > most) then some (.inr (.inr (true, U0, U1, U2, U3))) else some (.inl (IntKind.i64.wrap (s + (d.2.length : Int)))) := rfl
    rw [h]
    cases decide (IntKind.i64.wrap (s + (d.2.length : Int)) > most)
    · exact big_loop most U0 U1 U2 U3 r (i + 1) _
    · exact .inr rfl
theorem n_law13_big (u : U) (most : Int) (hs : sizeU u) : ∃ b, g_law13_big u most = some b ∧ (b = false → unitOK u) := by
  unfold g_law13_big G_ref8_Is
  by_cases h1 : (u.2.2.2.length : Int) > 4
  · rw [decide_eq_true h1]; exact ⟨_, rfl, fun k => nomatch k⟩
  by_cases h2 : (u.1.length : Int) > 10
  · rw [decide_eq_false h1, decide_eq_true h2]; exact ⟨_, rfl, fun k => nomatch k⟩
  by_cases h3 : (u.2.1.length : Int) > 10
  · rw [decide_eq_false h1, decide_eq_false h2, decide_eq_true h3]; exact ⟨_, rfl, fun k => nomatch k⟩
  rw [decide_eq_false h1, decide_eq_false h2, decide_eq_false h3]
  simp only [cond_false]
  have q := rg_law13_big_68_0_0 most u.1 u.2.1 u.2.2.1 u.2.2.2 0 hs.2.2.1
  have q2 : L_law13_big_68_0_0 (most, 0, 0, u) = _ := q
  rw [q2]
  unfold rv_law13_big_68_0_0
  rcases big_loop most u.1 u.2.1 u.2.2.1 u.2.2.2 u.2.2.2 0 0 with h | h
  · rw [h]
    simp only [optC_some, Sum.elim_inl]
    obtain ⟨b, hb, hk⟩ := n_ref8_Is u hs
    have hb2 : g_ref8_Is (u.1, u.2.1, u.2.2.1, u.2.2.2) = some b := hb
    rw [hb2]
    refine ⟨!b, rfl, fun k => hk (by simpa using k)⟩
  · rw [h]
    exact ⟨true, rfl, fun k => nomatch k⟩
def arrI (e : En) : Int := if e.2.1 = true then 1 else 0
def cmpI (x y : Int) (r : Int) : Int := if x < y then -1 else if x > y then 1 else r
def ordI (a b : En) : Int := cmpI a.1 b.1 (cmpI (arrI a) (arrI b) (cmpI a.2.2.1 b.2.2.1 (cmpI a.2.2.2.1 b.2.2.2.1 0)))
theorem n_ref12_arr (e : En) : g_ref12_arr e = some (arrI e) := by
  unfold g_ref12_arr arrI
  cases e.2.1 <;> rfl
theorem ord_loop (x0 x1 x2 x3 y0 y1 y2 y3 : Int) : L_ref12_order_56_0_0 (0, [x0, x1, x2, x3], [y0, y1, y2, y3]) =
    some (if cmpI x0 y0 (cmpI x1 y1 (cmpI x2 y2 (cmpI x3 y3 0))) = 0 then .inl () else .inr (cmpI x0 y0 (cmpI x1 y1 (cmpI x2 y2 (cmpI x3 y3 0))))) := by
  unfold L_ref12_order_56_0_0
  refine iterO_mono 5 FUEL _ _ (by decide) ?_
  have go : ∀ (n : Nat) (i : Nat) (x y : Int) (X Y : List Int), X[i]? = some x → Y[i]? = some y → i < 4 → iterO (fun x => st_ref12_order_56_0_0 x.1 x.2.1 x.2.2) (n + 1) ((i : Int), X, Y) =
      if x < y then some (.inr (-1)) else if x > y then some (.inr 1) else iterO (fun x => st_ref12_order_56_0_0 x.1 x.2.1 x.2.2) n (((i + 1 : Nat) : Int), X, Y) := by
    intro n i x y X Y hx hy hi
    rw [iterO]
    simp only [st_ref12_order_56_0_0]
    rw [show decide ((i : Int) < 4) = true from decide_eq_true (by omega), show decide (0 ≤ (i : Int)) = true from decide_eq_true (by omega), Int.toNat_natCast, hx, hy]
    rw [wrap_next hi (by omega)]
    simp only [cond_true, optC_some]
    by_cases h1 : x < y
    · rw [decide_eq_true h1, if_pos h1]; rfl
    · by_cases h2 : x > y
      · rw [decide_eq_false h1, decide_eq_true h2, if_neg h1, if_pos h2]; rfl
      · rw [decide_eq_false h1, decide_eq_false h2, if_neg h1, if_neg h2]; rfl
  have e0 := go 4 0 x0 y0 [x0, x1, x2, x3] [y0, y1, y2, y3] rfl rfl (by decide)
  have e1 := go 3 1 x1 y1 [x0, x1, x2, x3] [y0, y1, y2, y3] rfl rfl (by decide)
  have e2 := go 2 2 x2 y2 [x0, x1, x2, x3] [y0, y1, y2, y3] rfl rfl (by decide)
  have e3 := go 1 3 x3 y3 [x0, x1, x2, x3] [y0, y1, y2, y3] rfl rfl (by decide)
  have e4 : iterO (fun x => st_ref12_order_56_0_0 x.1 x.2.1 x.2.2) 1 (((3 + 1 : Nat) : Int), [x0, x1, x2, x3], [y0, y1, y2, y3]) = some (.inl ()) := by rfl
  refine e0.trans ?_
  rw [e1, e2, e3, e4]
  unfold cmpI
  by_cases a0 : x0 < y0
  · simp [a0]
  by_cases b0 : x0 > y0
  · simp [a0, b0]
  by_cases a1 : x1 < y1
  · simp [a0, b0, a1]
  by_cases b1 : x1 > y1
  · simp [a0, b0, a1, b1]
  by_cases a2 : x2 < y2
  · simp [a0, b0, a1, b1, a2]
  by_cases b2 : x2 > y2
  · simp [a0, b0, a1, b1, a2, b2]
  by_cases a3 : x3 < y3
  · simp [a0, b0, a1, b1, a2, b2, a3]
  by_cases b3 : x3 > y3
  · simp [a0, b0, a1, b1, a2, b2, a3, b3]
  simp [a0, b0, a1, b1, a2, b2, a3, b3]
theorem n_ref12_order (a b : En) : g_ref12_order a b = some (ordI a b) := by
  unfold g_ref12_order G_ref12_arr
  simp only [n_ref12_arr, optC_some, ord_loop]
  unfold ordI
  split
  · rename_i h; rw [h]; rfl
  · rfl
structure entOK (e : En) : Prop where
  v : isB e.2.2.2.2 = true
  n : empB e.2.2.2.2 = false
  h : 0 ≤ e.2.2.2.1 ∧ e.2.2.2.1 < 2147483648
structure tabOK (l : List En) : Prop where
  e : ∀ x ∈ l, entOK x
  s : ∀ (i : Nat) (a b : En), l[i]? = some a → l[i + 1]? = some b → ordI a b < 0
def entB (e : En) : Bool := isB e.2.2.2.2 && !empB e.2.2.2.2 && !decide (e.2.2.2.1 < 0) && !decide (e.2.2.2.1 ≥ 2147483648)
def aheadB (l : List En) (i : Nat) (d : En) : Bool := entB d && (bif decide (i > 0) then (l[i - 1]?).elim false (fun p => !decide (ordI p d ≥ 0)) else true)
def isTabB (l : List En) : Bool := allIx (aheadB l) 0 l
theorem n_ref12_Is (l : List En) (hl : l.length < 9223372036854775807) : g_ref12_Is l = some (isTabB l) := by
  unfold g_ref12_Is
  rw [rg_ref12_Is_21_0_0 l () hl]
  unfold rv_ref12_Is_21_0_0
  rw [rangeO_ask (p := aheadB l) (o := .inr false) l 0 fun j d hd => ?_]
  · unfold isTabB
    cases allIx (aheadB l) 0 l <;> rfl
  · have hj : j < l.length := (List.getElem?_eq_some_iff.1 hd).1
    unfold bd_ref12_Is_21_0_0 G_ref2_Is G_ref12_order aheadB entB
    simp only [n_ref2_Is, n_ref12_order, optC_some, Nat.zero_add]
    cases isB d.2.2.2.2
    · rfl
    by_cases h1 : d.2.2.2.2.1 > d.2.2.2.2.2
    · rw [decide_eq_true h1, show empB d.2.2.2.2 = true from emp_yes h1]; rfl
    rw [decide_eq_false h1, show empB d.2.2.2.2 = false from emp_no (Int.not_lt.1 h1)]
    by_cases h2 : d.2.2.2.1 < 0
    · rw [decide_eq_true h2]; rfl
    by_cases h3 : d.2.2.2.1 ≥ 2147483648
    · rw [decide_eq_false h2, decide_eq_true h3]; rfl
    rw [decide_eq_false h2, decide_eq_false h3]
    by_cases h4 : j > 0
    · rw [show decide ((j : Int) > 0) = true from decide_eq_true (by omega), decide_eq_true h4]
      have e5 : IntKind.i64.wrap ((j : Int) - 1) = ((j - 1 : Nat) : Int) := by rw [wrap_fits (by omega) (by omega)]; omega
      rw [e5, show decide (0 ≤ ((j - 1 : Nat) : Int)) = true from decide_eq_true (by omega), Int.toNat_natCast]
      obtain ⟨p, hp⟩ : ∃ p, l[j - 1]? = some p := ⟨l[j - 1]'(by omega), List.getElem?_eq_getElem _⟩
      rw [hp]
      simp only [cond_true, cond_false, optC_some, Option.elim_some, Bool.not_true, Bool.not_false, Bool.true_and]
      cases decide (ordI p d ≥ 0) <;> rfl
    · rw [show decide ((j : Int) > 0) = false from decide_eq_false (by omega), decide_eq_false h4]; rfl
theorem isTabB_ok {l : List En} (h : isTabB l = true) : tabOK l := by
  have k := allIx_iff.1 h
  have ent : ∀ (j : Nat) (d : En), l[j]? = some d → entOK d := fun j d hd => by
    have := k j d hd
    unfold aheadB entB at this
    simp only [Bool.and_eq_true, Bool.not_eq_true', decide_eq_false_iff_not] at this
    exact ⟨this.1.1.1.1, this.1.1.1.2, by omega⟩
  refine ⟨fun x hx => ?_, fun i a b ha hb => ?_⟩
  · obtain ⟨j, hj, rfl⟩ := List.mem_iff_getElem.1 hx
    exact ent j _ (List.getElem?_eq_getElem hj)
  · have := k (i + 1) b hb
    unfold aheadB at this
    rw [Nat.zero_add, show decide (i + 1 > 0) = true from decide_eq_true (by omega), Nat.add_sub_cancel, ha] at this
    simp only [cond_true, Option.elim_some, Bool.and_eq_true, Bool.not_eq_true', decide_eq_false_iff_not] at this
    omega
structure envOK (u : U) (t : Int) (e : E) : Prop where
  c : ∃ c, u.2.2.2[t.toNat]? = some c ∧ (e.2.1.length : Int) = c.1
  g : e.2.2.1.length = u.1.length
  a : e.2.2.2.1.length = u.2.1.length
  must : 0 ≤ e.2.2.2.2.1 ∧ e.2.2.2.2.1 < 2147483648
  may : 0 ≤ e.2.2.2.2.2 ∧ e.2.2.2.2.2 < 2147483648
  v : ∀ x ∈ e.2.1 ++ e.2.2.1 ++ e.2.2.2.1, isB x = true ∧ empB x = false
theorem fits_loop (l : List I) (hl : l.length < 9223372036854775807) : L_ref11_Fits_69_0_0 (0, l) = bif l.all (fun x => isB x && !empB x) then some (.inl ()) else some (.inr false) := by
  rw [rg_ref11_Fits_69_0_0 l () hl]
  unfold rv_ref11_Fits_69_0_0
  rw [rangeO_ask (p := fun _ x => isB x && !empB x) (o := .inr false) l 0 fun j d hd => ?_, allIx_all]
  · rfl
  · unfold bd_ref11_Fits_69_0_0 G_ref2_Is
    simp only [n_ref2_Is, optC_some]
    cases isB d
    · rfl
    by_cases h1 : d.1 > d.2
    · rw [decide_eq_true h1, emp_yes h1]; rfl
    · rw [decide_eq_false h1, emp_no (by omega)]; rfl
theorem ne_len {a b : Int} : (a != b) = !decide (a = b) := by
  by_cases h : a = b <;> simp [h, bne]
theorem n_ref11_Fits (u : U) (t : Int) (e : E) (hu : unitOK u) (h0 : 0 ≤ t) (ht : t < (u.2.2.2.length : Int)) : ∃ b, g_ref11_Fits u t e = some b ∧ (b = true → envOK u t e) := by
  obtain ⟨c, hc⟩ : ∃ c, u.2.2.2[t.toNat]? = some c := ⟨u.2.2.2[t.toNat]'(by omega), List.getElem?_eq_getElem _⟩
  have co := hu.ts c (List.mem_of_getElem? hc)
  unfold g_ref11_Fits
  rw [show decide (0 ≤ t) = true from decide_eq_true h0, hc]
  simp only [cond_true, optC_some, ne_len]
  by_cases h1 : (e.2.1.length : Int) = c.1
  case neg => rw [decide_eq_false h1]; exact ⟨_, rfl, fun k => nomatch k⟩
  by_cases h2 : (e.2.2.1.length : Int) = (u.1.length : Int)
  case neg => rw [decide_eq_true h1, decide_eq_false h2]; exact ⟨_, rfl, fun k => nomatch k⟩
  by_cases h3 : (e.2.2.2.1.length : Int) = (u.2.1.length : Int)
  case neg => rw [decide_eq_true h1, decide_eq_true h2, decide_eq_false h3]; exact ⟨_, rfl, fun k => nomatch k⟩
  by_cases h4 : e.2.2.2.2.1 < 0
  case pos => rw [decide_eq_true h1, decide_eq_true h2, decide_eq_true h3, decide_eq_true h4]; exact ⟨_, rfl, fun k => nomatch k⟩
  by_cases h5 : e.2.2.2.2.2 < 0
  case pos => rw [decide_eq_true h1, decide_eq_true h2, decide_eq_true h3, decide_eq_false h4, decide_eq_true h5]; exact ⟨_, rfl, fun k => nomatch k⟩
  by_cases h6 : e.2.2.2.2.1 ≥ 2147483648
  case pos => rw [decide_eq_true h1, decide_eq_true h2, decide_eq_true h3, decide_eq_false h4, decide_eq_false h5, decide_eq_true h6]; exact ⟨_, rfl, fun k => nomatch k⟩
  by_cases h7 : e.2.2.2.2.2 ≥ 2147483648
  case pos => rw [decide_eq_true h1, decide_eq_true h2, decide_eq_true h3, decide_eq_false h4, decide_eq_false h5, decide_eq_false h6, decide_eq_true h7]; exact ⟨_, rfl, fun k => nomatch k⟩
  rw [decide_eq_true h1, decide_eq_true h2, decide_eq_true h3, decide_eq_false h4, decide_eq_false h5, decide_eq_false h6, decide_eq_false h7]
  have b1 := co.v
  have b2 := hu.g
  have b3 := hu.a
  simp only [List.nil_append, List.length_append, List.length_nil, Nat.zero_add]
  rw [show decide ((e.2.1.length + 1) * 16 ≤ lim) = true from decide_eq_true (by unfold lim; omega), show decide ((e.2.1.length + e.2.2.1.length + 1) * 16 ≤ lim) = true from decide_eq_true (by unfold lim; omega), show decide ((e.2.1.length + e.2.2.1.length + e.2.2.2.1.length + 1) * 16 ≤ lim) = true from decide_eq_true (by unfold lim; omega)]
  simp only [Bool.not_true, cond_false, cond_true]
  rw [fits_loop _ (by simp only [List.length_append]; omega)]
  cases hv : (e.2.1 ++ e.2.2.1 ++ e.2.2.2.1).all fun x => isB x && !empB x
  · exact ⟨_, rfl, fun k => nomatch k⟩
  refine ⟨_, rfl, fun _ => ⟨⟨c, hc, h1⟩, by omega, by omega, by omega, by omega, fun x hx => ?_⟩⟩
  have := List.all_eq_true.1 hv x hx
  simpa using this
structure askedOK (u : U) (t : Int) (e : E) (l : List En) : Prop where
  hu : unitOK u
  ht : 0 ≤ t ∧ t < (u.2.2.2.length : Int)
  he : e.1 = true → envOK u t e
  hn : l.length ≤ 60
  hl : tabOK l
theorem n_law13_asked (u : U) (t : Int) (e : E) (l : List En) (hs : sizeU u) (hl : l.length < 9223372036854775807) : ∃ b, g_law13_asked u t e l = some b ∧ (b = true → askedOK u t e l) := by
  unfold g_law13_asked G_law13_big G_ref12_Is G_ref11_Fits
  obtain ⟨b, hb, hk⟩ := n_law13_big u 100 hs
  simp only [hb, optC_some, n_ref12_Is l hl]
  cases b
  case true => exact ⟨_, rfl, fun k => nomatch k⟩
  have hu := hk rfl
  by_cases h1 : t ≥ 0
  case neg => rw [decide_eq_false h1]; exact ⟨_, rfl, fun k => nomatch k⟩
  by_cases h2 : t < (u.2.2.2.length : Int)
  case neg => rw [decide_eq_true h1, decide_eq_false h2]; exact ⟨_, rfl, fun k => nomatch k⟩
  rw [decide_eq_true h1, decide_eq_true h2]
  simp only [Bool.not_false, cond_true]
  obtain ⟨b2, hb2, hk2⟩ := n_ref11_Fits u t e hu h1 h2
  simp only [hb2, optC_some]
  by_cases h3 : (l.length : Int) ≤ 60
  · rw [decide_eq_true h3]
    cases he : e.1
    · refine ⟨isTabB l, rfl, fun k => ⟨hu, ⟨h1, h2⟩, fun k => ?_, by omega, isTabB_ok k⟩⟩
      rw [he] at k; cases k
    · cases b2
      · exact ⟨_, rfl, fun k => nomatch k⟩
      · exact ⟨isTabB l, rfl, fun k => ⟨hu, ⟨h1, h2⟩, fun _ => hk2 rfl, by omega, isTabB_ok k⟩⟩
  · rw [decide_eq_false h3]
    cases he : e.1
    · exact ⟨_, rfl, fun k => nomatch k⟩
    · cases b2 <;> exact ⟨_, rfl, fun k => nomatch k⟩
end Go.Proofs.Ytbdcblpjemmipaa.Ex

namespace Go.Proofs.Ytbdcblpjemmipaa.Ex
set_option maxRecDepth 100000
set_option maxHeartbeats 2000000
set_option linter.unusedVariables false
set_option linter.unusedSimpArgs false
noncomputable def bd_held_bits_91_0_0  (s6 : (List Int)) (i : Nat) (s3 : Int) (d : Int) : Option (Int ⊕ Int) :=
  bif decide (d ≥ 0) then
   bif decide (d < 31) then
   bif decide (d < 0) then
   none
 else some (Sum.inl (Go.IntKind.i64.wrap (↑(BitVec.ofInt Go.IntKind.i64.bits s3 ||| BitVec.ofInt Go.IntKind.i64.bits (Go.IntKind.i64.wrap (1 * 2 ^ Min.min (Int.toNat d) Go.IntKind.i64.bits))).toNat : Int)))
 else some (Sum.inl (s3))
 else some (Sum.inl (s3))
noncomputable def fn_held_bits_91_0_0  (s6 : (List Int)) (s3 : Int) : Option Int :=
  some s3
noncomputable abbrev rx_held_bits_91_0_0  (s6 : (List Int)) (i : Nat) (s : Int) : (Int × (List Int) × Int × Int) := (s, s6, (s6.length : Int), (i : Int))
noncomputable def rv_held_bits_91_0_0  (s6 : (List Int)) (s : Int) : Option Int := rangeO (fun i s d => bd_held_bits_91_0_0  s6 i s d) (fun s => fn_held_bits_91_0_0  s6 s) 0 s6 s
theorem rg_held_bits_91_0_0  (s6 : (List Int)) (s : Int) (hl : s6.length < 9223372036854775807) : L_held_bits_91_0_0 (s, s6, (s6.length : Int), 0) = rv_held_bits_91_0_0  s6 s := by
  unfold L_held_bits_91_0_0 rv_held_bits_91_0_0
  refine iterO_range0 s6 (rx_held_bits_91_0_0  s6) _ _ ?_ ?_ s (by unfold FUEL; omega)
  · intro i s d hi hd
    have e1 : decide ((i : Int) < (s6.length : Int)) = true := decide_eq_true (by omega)
    have e2 : decide (0 ≤ (i : Int)) = true := decide_eq_true (by omega)
    have e3 : Int.toNat (i : Int) = i := Int.toNat_natCast i
    have e4 := wrap_next hi (Nat.le_of_lt hl)
    show st_held_bits_91_0_0 (s) (s6) ((s6.length : Int)) ((i : Int)) = upd _ (bd_held_bits_91_0_0  s6 i s d)
    unfold st_held_bits_91_0_0 bd_held_bits_91_0_0
    simp only [e1, e2, e3, e4, hd, cond_true, cond_false, optC_some, upd_cond, upd_optC, upd_elim, upd_inl, upd_inr, upd_none]
  · intro s
    have e1 : decide ((s6.length : Int) < (s6.length : Int)) = false := decide_eq_false (by omega)
    show st_held_bits_91_0_0 (s) (s6) ((s6.length : Int)) ((s6.length : Int)) = _
    unfold st_held_bits_91_0_0 fn_held_bits_91_0_0
    rw [e1]
    rfl
end Go.Proofs.Ytbdcblpjemmipaa.Ex

namespace Go.Proofs.Ytbdcblpjemmipaa.Ex
open Go.Proofs Go.Proofs.Ytbdcblpjemmipaa
set_option maxRecDepth 100000
set_option maxHeartbeats 2000000
set_option linter.unusedVariables false
set_option linter.unusedSimpArgs false
end Go.Proofs.Ytbdcblpjemmipaa.Ex

namespace Go.Proofs.Ytbdcblpjemmipaa.Ex
set_option maxRecDepth 100000
set_option maxHeartbeats 2000000
set_option linter.unusedVariables false
set_option linter.unusedSimpArgs false
end Go.Proofs.Ytbdcblpjemmipaa.Ex

namespace Go.Proofs.Ytbdcblpjemmipaa.Ex
open Go.Proofs Go.Proofs.Ytbdcblpjemmipaa
set_option maxRecDepth 100000
set_option maxHeartbeats 2000000
set_option linter.unusedVariables false
set_option linter.unusedSimpArgs false
end Go.Proofs.Ytbdcblpjemmipaa.Ex

namespace Go.Proofs.Ytbdcblpjemmipaa.Ex
set_option maxRecDepth 100000
set_option maxHeartbeats 2000000
set_option linter.unusedVariables false
set_option linter.unusedSimpArgs false
end Go.Proofs.Ytbdcblpjemmipaa.Ex

namespace Go.Proofs.Ytbdcblpjemmipaa.Ex
open Go.Proofs Go.Proofs.Ytbdcblpjemmipaa
set_option maxRecDepth 100000
set_option maxHeartbeats 2000000
set_option linter.unusedVariables false
set_option linter.unusedSimpArgs false
def ash_held_With : List Sh := [.dat (.int .i64), .dat (.sl (.int .i64))]
noncomputable def sp_held_With : Nat → Option (List AV → Prog AV)
  | 91 => some (con_held_bits)
  | _ => none
theorem hsp_held_With : ∀ g p, sp_held_With g = some p → SoundA Try.prog g p := by
  intro g p h
  unfold sp_held_With at h
  split at h
  · cases h; exact snd_held_bits
  · cases h
noncomputable def cx_held_With : Ctx := { tab := tab, spec := sp_held_With, inl := inl, lps := fun _ _ => none, fuel := 40 }
theorem in_held_With : InlOk Try.prog cx_held_With := ⟨inl_ok, fun _ _ _ _ _ _ _ _ h => nomatch h⟩
theorem cal_held_With (g : Nat) : SoundA Try.prog g (evF cx_held_With keeps 8 g) := evF_sound (tabOk_of tab_ok) (cmpsOk_of tab_ok cmps_ok) mixed in_held_With hsp_held_With keeps 8 g
noncomputable def g_held_With (a0 : Int) (a1 : (List Int)) : Option Int :=
  optC (G_held_bits (a1, ())) none fun d3 ↦ some (Go.IntKind.i64.wrap (↑(BitVec.ofInt Go.IntKind.i64.bits a0 ||| BitVec.ofInt Go.IntKind.i64.bits d3).toNat : Int))
theorem raw_held_With (a0 : Int) (a1 : (List Int)) : evGX cx_held_With keeps 8 134 ash_held_With (.dat (.int .i64)) ((a0, a1, ()) : (Int × ((List Int) × Unit))) = g_held_With a0 a1 := by kernel_rfl
noncomputable def G_held_With (x : (Int × ((List Int) × Unit))) : Option Int := g_held_With x.1 x.2.1
noncomputable def con_held_With : List AV → Prog AV := conP true ash_held_With (.dat (.int .i64)) G_held_With
theorem snd_held_With : SoundA Try.prog 134 con_held_With := conP_sound (cal_held_With 134) true (by rfl) (by rfl) (fun x r e => (evGX_eq _ _ _ _ _ _ _).trans ((raw_held_With x.1 x.2.1).trans e)) (.inl rfl)
end Go.Proofs.Ytbdcblpjemmipaa.Ex

namespace Go.Proofs.Ytbdcblpjemmipaa.Ex
open Go.Proofs Go.Proofs.Ytbdcblpjemmipaa
set_option maxRecDepth 100000
set_option maxHeartbeats 2000000
set_option linter.unusedVariables false
set_option linter.unusedSimpArgs false
def ash_held_Without : List Sh := [.dat (.int .i64), .dat (.sl (.int .i64))]
noncomputable def sp_held_Without : Nat → Option (List AV → Prog AV)
  | 91 => some (con_held_bits)
  | _ => none
theorem hsp_held_Without : ∀ g p, sp_held_Without g = some p → SoundA Try.prog g p := by
  intro g p h
  unfold sp_held_Without at h
  split at h
  · cases h; exact snd_held_bits
  · cases h
noncomputable def cx_held_Without : Ctx := { tab := tab, spec := sp_held_Without, inl := inl, lps := fun _ _ => none, fuel := 40 }
theorem in_held_Without : InlOk Try.prog cx_held_Without := ⟨inl_ok, fun _ _ _ _ _ _ _ _ h => nomatch h⟩
theorem cal_held_Without (g : Nat) : SoundA Try.prog g (evF cx_held_Without keeps 8 g) := evF_sound (tabOk_of tab_ok) (cmpsOk_of tab_ok cmps_ok) mixed in_held_Without hsp_held_Without keeps 8 g
noncomputable def g_held_Without (a0 : Int) (a1 : (List Int)) : Option Int :=
  optC (G_held_bits (a1, ())) none fun d3 ↦ some (Go.IntKind.i64.wrap (↑(BitVec.ofInt Go.IntKind.i64.bits a0 &&& ~~~BitVec.ofInt Go.IntKind.i64.bits d3).toNat : Int))
theorem raw_held_Without (a0 : Int) (a1 : (List Int)) : evGX cx_held_Without keeps 8 135 ash_held_Without (.dat (.int .i64)) ((a0, a1, ()) : (Int × ((List Int) × Unit))) = g_held_Without a0 a1 := by kernel_rfl
noncomputable def G_held_Without (x : (Int × ((List Int) × Unit))) : Option Int := g_held_Without x.1 x.2.1
noncomputable def con_held_Without : List AV → Prog AV := conP true ash_held_Without (.dat (.int .i64)) G_held_Without
theorem snd_held_Without : SoundA Try.prog 135 con_held_Without := conP_sound (cal_held_Without 135) true (by rfl) (by rfl) (fun x r e => (evGX_eq _ _ _ _ _ _ _).trans ((raw_held_Without x.1 x.2.1).trans e)) (.inl rfl)
end Go.Proofs.Ytbdcblpjemmipaa.Ex

namespace Go.Proofs.Ytbdcblpjemmipaa.Ex
set_option maxRecDepth 100000
set_option maxHeartbeats 2000000
set_option linter.unusedVariables false
set_option linter.unusedSimpArgs false
noncomputable def bd_itv_Join_55_0_0 (b0 : Int) (b0_1 : Int) (s7 : (List I)) (i : Nat) (b1 : Int) (b1_1 : Int) (d : I) : Option ((Int × Int) ⊕ (Int × Int × Int × Int)) :=
  bif decide (d.1 > d.2) then
   some (Sum.inl (b1, b1_1))
 else bif decide (b1 > b1_1) then
   some (Sum.inl (d.1, d.2))
 else some (Sum.inl (if d.1 < b1 then d.1 else b1, if d.2 > b1_1 then d.2 else b1_1))
noncomputable def fn_itv_Join_55_0_0 (b0 : Int) (b0_1 : Int) (s7 : (List I)) (b1 : Int) (b1_1 : Int) : Option (Int × Int × Int × Int) :=
  some (b0, b0_1, b1, b1_1)
noncomputable abbrev rx_itv_Join_55_0_0 (b0 : Int) (b0_1 : Int) (s7 : (List I)) (i : Nat) (s : (Int × Int)) : ((List I) × Int × Int × Int × Int × Int × Int) := (s7, (s7.length : Int), (i : Int), b0, b0_1, s.1, s.2)
noncomputable def rv_itv_Join_55_0_0 (b0 : Int) (b0_1 : Int) (s7 : (List I)) (s : (Int × Int)) : Option (Int × Int × Int × Int) := rangeO (fun i s d => bd_itv_Join_55_0_0 b0 b0_1 s7 i s.1 s.2 d) (fun s => fn_itv_Join_55_0_0 b0 b0_1 s7 s.1 s.2) 0 s7 s
theorem rg_itv_Join_55_0_0 (b0 : Int) (b0_1 : Int) (s7 : (List I)) (s : (Int × Int)) (hl : s7.length < 9223372036854775807) : L_itv_Join_55_0_0 (s7, (s7.length : Int), 0, b0, b0_1, s.1, s.2) = rv_itv_Join_55_0_0 b0 b0_1 s7 s := by
  unfold L_itv_Join_55_0_0 rv_itv_Join_55_0_0
  refine iterO_range0 s7 (rx_itv_Join_55_0_0 b0 b0_1 s7) _ _ ?_ ?_ s (by unfold FUEL; omega)
  · intro i s d hi hd
    have e1 : decide ((i : Int) < (s7.length : Int)) = true := decide_eq_true (by omega)
    have e2 : decide (0 ≤ (i : Int)) = true := decide_eq_true (by omega)
    have e3 : Int.toNat (i : Int) = i := Int.toNat_natCast i
    have e4 := wrap_next hi (Nat.le_of_lt hl)
    show st_itv_Join_55_0_0 (s7) ((s7.length : Int)) ((i : Int)) (b0) (b0_1) (s.1) (s.2) = upd _ (bd_itv_Join_55_0_0 b0 b0_1 s7 i s.1 s.2 d)
    unfold st_itv_Join_55_0_0 bd_itv_Join_55_0_0
    simp only [e1, e2, e3, e4, hd, cond_true, cond_false, optC_some, upd_cond, upd_optC, upd_elim, upd_inl, upd_inr, upd_none]
  · intro s
    have e1 : decide ((s7.length : Int) < (s7.length : Int)) = false := decide_eq_false (by omega)
    show st_itv_Join_55_0_0 (s7) ((s7.length : Int)) ((s7.length : Int)) (b0) (b0_1) (s.1) (s.2) = _
    unfold st_itv_Join_55_0_0 fn_itv_Join_55_0_0
    rw [e1]
    rfl
end Go.Proofs.Ytbdcblpjemmipaa.Ex

namespace Go.Proofs.Ytbdcblpjemmipaa.Ex
open Go.Proofs Go.Proofs.Ytbdcblpjemmipaa
set_option maxRecDepth 100000
set_option maxHeartbeats 2000000
set_option linter.unusedVariables false
set_option linter.unusedSimpArgs false
abbrev fn_96_0 := (fun (d : (((List Int) × (Int × (Int × Unit))) × Unit)) => ((d.1.1, d.1.2.1, d.1.2.2.1) : ((List Int) × Int × Int)))
def ash_num_Fits : List Sh := [.dat (.sl (.int .i64))]
def kp_num_Fits_98_0 : Nat → List Nat := fun c => bif c.beq 0 then [5, 6, 7] else [2]
noncomputable def sp_num_Fits : Nat → Option (List AV → Prog AV)
  | _ => none
theorem hsp_num_Fits : ∀ g p, sp_num_Fits g = some p → SoundA Try.prog g p := by
  intro g p h
  unfold sp_num_Fits at h
  split at h
  · cases h
noncomputable def cx_num_Fits0 : Ctx := { tab := tab, spec := sp_num_Fits, inl := inl, lps := fun _ _ => none, fuel := 40 }
theorem in_num_Fits0 : InlOk Try.prog cx_num_Fits0 := ⟨inl_ok, fun _ _ _ _ _ _ _ _ h => nomatch h⟩
theorem cal_num_Fits0 (g : Nat) : SoundA Try.prog g (evF cx_num_Fits0 keeps 8 g) := evF_sound (tabOk_of tab_ok) (cmpsOk_of tab_ok cmps_ok) mixed in_num_Fits0 hsp_num_Fits keeps 8 g
noncomputable def F_num_Fits_98_0 (base : Nat) : Tm → Prog (Nat × Tm) := evC cx_num_Fits0 (evF cx_num_Fits0 keeps 8) ⟨98, 18, keeps 98, base⟩ 0 (bodyX 98 0)
def s_num_Fits_98_0_0 : StS := ⟨[(5, .sl (.int .i64)), (6, .int .i64), (7, .int .i64)], [], 0⟩
def x_num_Fits_98_0_0_0 : StS := ⟨[(2, .undef)], [], 0⟩
def x_num_Fits_98_0_0_1 : StS := ⟨[(2, .bool)], [], 0⟩
noncomputable def st_num_Fits_98_0_0 (s5 : (List Int)) (s6 : Int) (s7 : Int) : Option (((List Int) × Int × Int) ⊕ (Unit ⊕ Bool)) :=
  bif decide (s7 < s6) then
 bif decide (0 ≤ s7) then
 optC s5[s7.toNat]? none fun d5 ↦
 bif decide (d5 < -2147483648) then some (Sum.inr (Sum.inr false))
 else bif decide (d5 > 2147483647) then some (Sum.inr (Sum.inr false)) else some (Sum.inl (s5, s6, Go.IntKind.i64.wrap (s7 + 1)))
 else none
 else some (Sum.inr (Sum.inl PUnit.unit))
theorem rn_num_Fits_98_0_0 (s5 : (List Int)) (s6 : Int) (s7 : Int) : rdX cx_num_Fits0 keeps 8 ⟨98, 18, keeps 98, 0⟩ 0 (bodyX 98 0) 0 kp_num_Fits_98_0 (sT s_num_Fits_98_0_0 ((s5, s6, s7, ()), ())) (sH s_num_Fits_98_0_0 ((s5, s6, s7, ()), ())) (rdO (fun T h => (rdS s_num_Fits_98_0_0 T h).map fn_96_0) (getOr (getE 2 x_num_Fits_98_0_0_0 (fun (d : ((Unit × Unit) × Unit)) => (() : Unit))) (getE 1 x_num_Fits_98_0_0_1 (fun (d : ((Bool × Unit) × Unit)) => ((d.1.1) : Bool))))) = st_num_Fits_98_0_0 s5 s6 s7 := by kernel_rfl
noncomputable def L_num_Fits_98_0_0 (x : ((List Int) × Int × Int)) : Option (Unit ⊕ Bool) := iterO (fun x => st_num_Fits_98_0_0 x.1 x.2.1 x.2.2) FUEL x
noncomputable def q_num_Fits_98_0 : Nat → Tm → Prog (Nat × Tm) := (varP 0 (fun T h => (rdS s_num_Fits_98_0_0 T h).map fn_96_0) L_num_Fits_98_0_0 (fun y => .alt y (altE 2 x_num_Fits_98_0_0_0 (fun (x : Unit) => ((((), ()), ()) : ((Unit × Unit) × Unit)))) (altE 1 x_num_Fits_98_0_0_1 (fun (x : Bool) => (((x, ()), ()) : ((Bool × Unit) × Unit))))) (fun _ _ => .fail))
theorem ok_num_Fits_98_0 : VarOk kp_num_Fits_98_0 F_num_Fits_98_0 q_num_Fits_98_0 := (varX_ok (s := s_num_Fits_98_0_0) (un := (fun (x : ((List Int) × Int × Int)) => (((x.1, x.2.1, x.2.2, ()), ()) : (((List Int) × (Int × (Int × Unit))) × Unit)))) (by rfl) (fun _ => rfl) (getOr_ok (getE_ok (s := x_num_Fits_98_0_0_0) (un := (fun (x : Unit) => ((((), ()), ()) : ((Unit × Unit) × Unit)))) (by rfl) (fun _ => rfl)) (getE_ok (s := x_num_Fits_98_0_0_1) (un := (fun (x : Bool) => (((x, ()), ()) : ((Bool × Unit) × Unit)))) (by rfl) (fun _ => rfl))) (step := fun x => st_num_Fits_98_0_0 x.1 x.2.1 x.2.2) (fun x => rn_num_Fits_98_0_0 x.1 x.2.1 x.2.2) (fun _ _ e => ⟨_, e⟩) (altOr_ok (altE_ok 2 x_num_Fits_98_0_0_0 (fun (x : Unit) => ((((), ()), ()) : ((Unit × Unit) × Unit)))) (altE_ok 1 x_num_Fits_98_0_0_1 (fun (x : Bool) => (((x, ()), ()) : ((Bool × Unit) × Unit))))) (VarOk.fail _ _))
noncomputable def lpI_num_Fits_98_0 (base : Nat) (T : Tm) : Prog (Nat × Tm) := .norm base (kp_num_Fits_98_0 0) T (q_num_Fits_98_0 base)
theorem sndI_num_Fits_98_0 : SoundC Try.prog 18 (.loop (bodyX 98 0)) lpI_num_Fits_98_0 := loopK_sound (cx := cx_num_Fits0) (cal := evF cx_num_Fits0 keeps 8) (kp := keeps 98) (tabOk_of tab_ok) (cmpsOk_of tab_ok cmps_ok) cal_num_Fits0 mixed (hl_of (g := 98) (b := 0) in_num_Fits0 (by kernel_rfl) (by kernel_rfl)) ok_num_Fits_98_0
noncomputable def lpL_num_Fits_98_0 : Nat → Tm → Prog (Nat × Tm) := lpI_num_Fits_98_0
theorem sndL_num_Fits_98_0 : SoundC Try.prog 18 (.loop (bodyX 98 0)) lpL_num_Fits_98_0 := sndI_num_Fits_98_0
noncomputable def lp_num_Fits : Nat → Nat → Option (Nat → Tm → Prog (Nat × Tm))
  | 98, 0 => some lpL_num_Fits_98_0
  | _, _ => none
noncomputable def cx_num_Fits : Ctx := { tab := tab, spec := sp_num_Fits, inl := inl, lps := lp_num_Fits, fuel := 40 }
theorem in_num_Fits : InlOk Try.prog cx_num_Fits := ⟨inl_ok, fun g fn c hg hb q hq p hp => by
  change lp_num_Fits g q.1 = some p at hp
  change inl g = some fn at hg
  generalize hq1 : q.1 = b at hp
  unfold lp_num_Fits at hp
  split at hp
  · cases hp; exact lps_case (inl := inl) hg hb hq hq1 (by kernel_rfl) (by kernel_rfl) sndL_num_Fits_98_0
  · cases hp⟩
theorem cal_num_Fits (g : Nat) : SoundA Try.prog g (evF cx_num_Fits keeps 8 g) := evF_sound (tabOk_of tab_ok) (cmpsOk_of tab_ok cmps_ok) mixed in_num_Fits hsp_num_Fits keeps 8 g
noncomputable def g_num_Fits (a0 : (List Int)) : Option Bool :=
  optC (L_num_Fits_98_0_0 (a0, (↑a0.length : Int), 0)) none fun d3 ↦ Sum.elim (fun e4 ↦ some true) (fun e4 ↦ some e4) d3
theorem raw_num_Fits (a0 : (List Int)) : evGX cx_num_Fits keeps 8 98 ash_num_Fits (.dat .bool) ((a0, ()) : ((List Int) × Unit)) = g_num_Fits a0 := by kernel_rfl
noncomputable def G_num_Fits (x : ((List Int) × Unit)) : Option Bool := g_num_Fits x.1
noncomputable def con_num_Fits : List AV → Prog AV := conP true ash_num_Fits (.dat .bool) G_num_Fits
theorem snd_num_Fits : SoundA Try.prog 98 con_num_Fits := conP_sound (cal_num_Fits 98) true (by rfl) (by rfl) (fun x r e => (evGX_eq _ _ _ _ _ _ _).trans ((raw_num_Fits x.1).trans e)) (.inl rfl)
end Go.Proofs.Ytbdcblpjemmipaa.Ex

namespace Go.Proofs.Ytbdcblpjemmipaa.Ex
open Go.Proofs Go.Proofs.Ytbdcblpjemmipaa
set_option maxRecDepth 100000
set_option maxHeartbeats 2000000
set_option linter.unusedVariables false
set_option linter.unusedSimpArgs false
abbrev ty_97_0 : Type := ((Unit × (Unit × ((List Int) × (Int × (Int × Unit))))) × ((Int × (Int × Unit)) × ((Int × (Int × Unit)) × Unit)))
abbrev ty_97_1 : Type := ((Unit × (Unit × Unit)) × ((Int × (Int × Unit)) × ((Int × (Int × Unit)) × Unit)))
abbrev fn_97_0 := (fun (d : ty_97_0) => ((d.1.2.2.1, d.1.2.2.2.1, d.1.2.2.2.2.1, d.2.1.1, d.2.1.2.1, d.2.2.1.1, d.2.2.1.2.1) : ((List Int) × Int × Int × Int × Int × Int × Int)))
abbrev fn_97_1 := (fun (x : (Int × Int × Int × Int)) => ((((), (), ()), ((x.1, x.2.1, ()), (x.2.2.1, x.2.2.2, ()), ())) : ty_97_1))
def ash_itv_Of : List Sh := [.dat (.sl (.int .i64))]
def kp_itv_Of_101_0 : Nat → List Nat := fun c => bif c.beq 0 then [2, 3, 7, 8, 9] else [2, 3]
noncomputable def sp_itv_Of : Nat → Option (List AV → Prog AV)
  | 89 => some (con_itv_None)
  | 98 => some (con_num_Fits)
  | 55 => some (con_itv_Join)
  | _ => none
theorem hsp_itv_Of : ∀ g p, sp_itv_Of g = some p → SoundA Try.prog g p := by
  intro g p h
  unfold sp_itv_Of at h
  split at h
  · cases h; exact snd_itv_None
  · cases h; exact snd_num_Fits
  · cases h; exact snd_itv_Join
  · cases h
noncomputable def cx_itv_Of0 : Ctx := { tab := tab, spec := sp_itv_Of, inl := inl, lps := fun _ _ => none, fuel := 40 }
theorem in_itv_Of0 : InlOk Try.prog cx_itv_Of0 := ⟨inl_ok, fun _ _ _ _ _ _ _ _ h => nomatch h⟩
theorem cal_itv_Of0 (g : Nat) : SoundA Try.prog g (evF cx_itv_Of0 keeps 8 g) := evF_sound (tabOk_of tab_ok) (cmpsOk_of tab_ok cmps_ok) mixed in_itv_Of0 hsp_itv_Of keeps 8 g
noncomputable def F_itv_Of_101_0 (base : Nat) : Tm → Prog (Nat × Tm) := evC cx_itv_Of0 (evF cx_itv_Of0 keeps 8) ⟨101, 24, keeps 101, base⟩ 0 (bodyX 101 0)
def s_itv_Of_101_0_0 : StS := ⟨[(2, .ptr 0 0), (3, .ptr 1 0), (7, .sl (.int .i64)), (8, .int .i64), (9, .int .i64)], [(0, .box [.int .i64, .int .i64]), (1, .box [.int .i64, .int .i64])], 2⟩
def x_itv_Of_101_0_0_0 : StS := ⟨[(2, .ptr 0 0), (3, .ptr 1 0)], [(0, .box [.int .i64, .int .i64]), (1, .box [.int .i64, .int .i64])], 2⟩
noncomputable def st_itv_Of_101_0_0 (s7 : (List Int)) (s8 : Int) (s9 : Int) (b0 : Int) (b0_1 : Int) (b1 : Int) (b1_1 : Int) : Option (((List Int) × Int × Int × Int × Int × Int × Int) ⊕ (Int × Int × Int × Int)) :=
  bif decide (s9 < s8) then
 bif decide (0 ≤ s9) then
 optC s7[s9.toNat]? none fun d9 ↦
 optC (G_num_Fits ([d9], ())) none fun d10 ↦
 bif d10 then optC (G_itv_Join ([(b1, b1_1), (d9, d9)], ())) none fun d11 ↦ some (Sum.inl (s7, s8, Go.IntKind.i64.wrap (s9 + 1), b0, b0_1, d11.1, d11.2))
 else some (Sum.inl (s7, s8, Go.IntKind.i64.wrap (s9 + 1), b0, b0_1, b1, b1_1))
 else none
 else some (Sum.inr (b0, b0_1, b1, b1_1))
theorem rn_itv_Of_101_0_0 (s7 : (List Int)) (s8 : Int) (s9 : Int) (b0 : Int) (b0_1 : Int) (b1 : Int) (b1_1 : Int) : rdX cx_itv_Of0 keeps 8 ⟨101, 24, keeps 101, 0⟩ 0 (bodyX 101 0) 0 kp_itv_Of_101_0 (sT s_itv_Of_101_0_0 (((), (), s7, s8, s9, ()), ((b0, b0_1, ()), (b1, b1_1, ()), ()))) (sH s_itv_Of_101_0_0 (((), (), s7, s8, s9, ()), ((b0, b0_1, ()), (b1, b1_1, ()), ()))) (rdO (fun T h => (rdS s_itv_Of_101_0_0 T h).map fn_97_0) (getE 2 x_itv_Of_101_0_0_0 (fun (d : ty_97_1) => ((d.2.1.1, d.2.1.2.1, d.2.2.1.1, d.2.2.1.2.1) : (Int × Int × Int × Int))))) = st_itv_Of_101_0_0 s7 s8 s9 b0 b0_1 b1 b1_1 := by kernel_rfl
noncomputable def L_itv_Of_101_0_0 (x : ((List Int) × Int × Int × Int × Int × Int × Int)) : Option (Int × Int × Int × Int) := iterO (fun x => st_itv_Of_101_0_0 x.1 x.2.1 x.2.2.1 x.2.2.2.1 x.2.2.2.2.1 x.2.2.2.2.2.1 x.2.2.2.2.2.2) FUEL x
noncomputable def q_itv_Of_101_0 : Nat → Tm → Prog (Nat × Tm) := (varP 0 (fun T h => (rdS s_itv_Of_101_0_0 T h).map fn_97_0) L_itv_Of_101_0_0 (altE 2 x_itv_Of_101_0_0_0 fn_97_1) (fun _ _ => .fail))
theorem ok_itv_Of_101_0 : VarOk kp_itv_Of_101_0 F_itv_Of_101_0 q_itv_Of_101_0 := (varX_ok (s := s_itv_Of_101_0_0) (un := (fun (x : ((List Int) × Int × Int × Int × Int × Int × Int)) => ((((), (), x.1, x.2.1, x.2.2.1, ()), ((x.2.2.2.1, x.2.2.2.2.1, ()), (x.2.2.2.2.2.1, x.2.2.2.2.2.2, ()), ())) : ty_97_0))) (by rfl) (fun _ => rfl) (getE_ok (s := x_itv_Of_101_0_0_0) (un := fn_97_1) (by rfl) (fun _ => rfl)) (step := fun x => st_itv_Of_101_0_0 x.1 x.2.1 x.2.2.1 x.2.2.2.1 x.2.2.2.2.1 x.2.2.2.2.2.1 x.2.2.2.2.2.2) (fun x => rn_itv_Of_101_0_0 x.1 x.2.1 x.2.2.1 x.2.2.2.1 x.2.2.2.2.1 x.2.2.2.2.2.1 x.2.2.2.2.2.2) (fun _ _ e => ⟨_, e⟩) (altE_ok 2 x_itv_Of_101_0_0_0 fn_97_1) (VarOk.fail _ _))
noncomputable def lpI_itv_Of_101_0 (base : Nat) (T : Tm) : Prog (Nat × Tm) := .norm base (kp_itv_Of_101_0 0) T (q_itv_Of_101_0 base)
theorem sndI_itv_Of_101_0 : SoundC Try.prog 24 (.loop (bodyX 101 0)) lpI_itv_Of_101_0 := loopK_sound (cx := cx_itv_Of0) (cal := evF cx_itv_Of0 keeps 8) (kp := keeps 101) (tabOk_of tab_ok) (cmpsOk_of tab_ok cmps_ok) cal_itv_Of0 mixed (hl_of (g := 101) (b := 0) in_itv_Of0 (by kernel_rfl) (by kernel_rfl)) ok_itv_Of_101_0
noncomputable def lpL_itv_Of_101_0 : Nat → Tm → Prog (Nat × Tm) := lpI_itv_Of_101_0
theorem sndL_itv_Of_101_0 : SoundC Try.prog 24 (.loop (bodyX 101 0)) lpL_itv_Of_101_0 := sndI_itv_Of_101_0
noncomputable def lp_itv_Of : Nat → Nat → Option (Nat → Tm → Prog (Nat × Tm))
  | 101, 0 => some lpL_itv_Of_101_0
  | _, _ => none
noncomputable def cx_itv_Of : Ctx := { tab := tab, spec := sp_itv_Of, inl := inl, lps := lp_itv_Of, fuel := 40 }
theorem in_itv_Of : InlOk Try.prog cx_itv_Of := ⟨inl_ok, fun g fn c hg hb q hq p hp => by
  change lp_itv_Of g q.1 = some p at hp
  change inl g = some fn at hg
  generalize hq1 : q.1 = b at hp
  unfold lp_itv_Of at hp
  split at hp
  · cases hp; exact lps_case (inl := inl) hg hb hq hq1 (by kernel_rfl) (by kernel_rfl) sndL_itv_Of_101_0
  · cases hp⟩
theorem cal_itv_Of (g : Nat) : SoundA Try.prog g (evF cx_itv_Of keeps 8 g) := evF_sound (tabOk_of tab_ok) (cmpsOk_of tab_ok cmps_ok) mixed in_itv_Of hsp_itv_Of keeps 8 g
noncomputable def g_itv_Of (a0 : (List Int)) : Option I :=
  optC (L_itv_Of_101_0_0 (a0, (↑a0.length : Int), 0, 0, 0, 1, 0)) none fun d3 ↦ some (d3.2.2.1, d3.2.2.2)
theorem raw_itv_Of (a0 : (List Int)) : evGX cx_itv_Of keeps 8 101 ash_itv_Of (.dat tI) ((a0, ()) : ((List Int) × Unit)) = g_itv_Of a0 := by kernel_rfl
noncomputable def G_itv_Of (x : ((List Int) × Unit)) : Option I := g_itv_Of x.1
noncomputable def con_itv_Of : List AV → Prog AV := conP true ash_itv_Of (.dat tI) G_itv_Of
theorem snd_itv_Of : SoundA Try.prog 101 con_itv_Of := conP_sound (cal_itv_Of 101) true (by rfl) (by rfl) (fun x r e => (evGX_eq _ _ _ _ _ _ _).trans ((raw_itv_Of x.1).trans e)) (.inl rfl)
end Go.Proofs.Ytbdcblpjemmipaa.Ex

namespace Go.Proofs.Ytbdcblpjemmipaa.Ex
set_option maxRecDepth 100000
set_option maxHeartbeats 2000000
set_option linter.unusedVariables false
set_option linter.unusedSimpArgs false
noncomputable def bd_itv_Of_101_0_0 (b0 : Int) (b0_1 : Int) (s7 : (List Int)) (i : Nat) (b1 : Int) (b1_1 : Int) (d : Int) : Option ((Int × Int) ⊕ (Int × Int × Int × Int)) :=
  optC (G_num_Fits ([d], ())) (none) fun d10 ↦
   bif d10 then
   optC (G_itv_Join ([(b1, b1_1), (d, d)], ())) (none) fun d11 ↦
   some (Sum.inl (d11.1, d11.2))
 else some (Sum.inl (b1, b1_1))
noncomputable def fn_itv_Of_101_0_0 (b0 : Int) (b0_1 : Int) (s7 : (List Int)) (b1 : Int) (b1_1 : Int) : Option (Int × Int × Int × Int) :=
  some (b0, b0_1, b1, b1_1)
noncomputable abbrev rx_itv_Of_101_0_0 (b0 : Int) (b0_1 : Int) (s7 : (List Int)) (i : Nat) (s : (Int × Int)) : ((List Int) × Int × Int × Int × Int × Int × Int) := (s7, (s7.length : Int), (i : Int), b0, b0_1, s.1, s.2)
noncomputable def rv_itv_Of_101_0_0 (b0 : Int) (b0_1 : Int) (s7 : (List Int)) (s : (Int × Int)) : Option (Int × Int × Int × Int) := rangeO (fun i s d => bd_itv_Of_101_0_0 b0 b0_1 s7 i s.1 s.2 d) (fun s => fn_itv_Of_101_0_0 b0 b0_1 s7 s.1 s.2) 0 s7 s
theorem rg_itv_Of_101_0_0 (b0 : Int) (b0_1 : Int) (s7 : (List Int)) (s : (Int × Int)) (hl : s7.length < 9223372036854775807) : L_itv_Of_101_0_0 (s7, (s7.length : Int), 0, b0, b0_1, s.1, s.2) = rv_itv_Of_101_0_0 b0 b0_1 s7 s := by
  unfold L_itv_Of_101_0_0 rv_itv_Of_101_0_0
  refine iterO_range0 s7 (rx_itv_Of_101_0_0 b0 b0_1 s7) _ _ ?_ ?_ s (by unfold FUEL; omega)
  · intro i s d hi hd
    have e1 : decide ((i : Int) < (s7.length : Int)) = true := decide_eq_true (by omega)
    have e2 : decide (0 ≤ (i : Int)) = true := decide_eq_true (by omega)
    have e3 : Int.toNat (i : Int) = i := Int.toNat_natCast i
    have e4 := wrap_next hi (Nat.le_of_lt hl)
    show st_itv_Of_101_0_0 (s7) ((s7.length : Int)) ((i : Int)) (b0) (b0_1) (s.1) (s.2) = upd _ (bd_itv_Of_101_0_0 b0 b0_1 s7 i s.1 s.2 d)
    unfold st_itv_Of_101_0_0 bd_itv_Of_101_0_0
    simp only [e1, e2, e3, e4, hd, cond_true, cond_false, optC_some, upd_cond, upd_optC, upd_elim, upd_inl, upd_inr, upd_none]
  · intro s
    have e1 : decide ((s7.length : Int) < (s7.length : Int)) = false := decide_eq_false (by omega)
    show st_itv_Of_101_0_0 (s7) ((s7.length : Int)) ((s7.length : Int)) (b0) (b0_1) (s.1) (s.2) = _
    unfold st_itv_Of_101_0_0 fn_itv_Of_101_0_0
    rw [e1]
    rfl
end Go.Proofs.Ytbdcblpjemmipaa.Ex

namespace Go.Proofs.Ytbdcblpjemmipaa.Ex
set_option maxRecDepth 100000
set_option maxHeartbeats 2000000
set_option linter.unusedVariables false
set_option linter.unusedSimpArgs false
noncomputable def bd_num_Fits_98_0_0  (s5 : (List Int)) (i : Nat)  (d : Int) : Option (Unit ⊕ (Unit ⊕ Bool)) :=
  bif decide (d < -2147483648) then
   some (Sum.inr (Sum.inr false))
 else bif decide (d > 2147483647) then
   some (Sum.inr (Sum.inr false))
 else some (Sum.inl ())
noncomputable def fn_num_Fits_98_0_0  (s5 : (List Int))  : Option (Unit ⊕ Bool) :=
  some (Sum.inl PUnit.unit)
noncomputable abbrev rx_num_Fits_98_0_0  (s5 : (List Int)) (i : Nat) (s : Unit) : ((List Int) × Int × Int) := (s5, (s5.length : Int), (i : Int))
noncomputable def rv_num_Fits_98_0_0  (s5 : (List Int)) (s : Unit) : Option (Unit ⊕ Bool) := rangeO (fun i s d => bd_num_Fits_98_0_0  s5 i  d) (fun s => fn_num_Fits_98_0_0  s5 ) 0 s5 s
theorem rg_num_Fits_98_0_0  (s5 : (List Int)) (s : Unit) (hl : s5.length < 9223372036854775807) : L_num_Fits_98_0_0 (s5, (s5.length : Int), 0) = rv_num_Fits_98_0_0  s5 s := by
  unfold L_num_Fits_98_0_0 rv_num_Fits_98_0_0
  refine iterO_range0 s5 (rx_num_Fits_98_0_0  s5) _ _ ?_ ?_ s (by unfold FUEL; omega)
  · intro i s d hi hd
    have e1 : decide ((i : Int) < (s5.length : Int)) = true := decide_eq_true (by omega)
    have e2 : decide (0 ≤ (i : Int)) = true := decide_eq_true (by omega)
    have e3 : Int.toNat (i : Int) = i := Int.toNat_natCast i
    have e4 := wrap_next hi (Nat.le_of_lt hl)
    show st_num_Fits_98_0_0 (s5) ((s5.length : Int)) ((i : Int)) = upd _ (bd_num_Fits_98_0_0  s5 i  d)
    unfold st_num_Fits_98_0_0 bd_num_Fits_98_0_0
    simp only [e1, e2, e3, e4, hd, cond_true, cond_false, optC_some, upd_cond, upd_optC, upd_elim, upd_inl, upd_inr, upd_none]
  · intro s
    have e1 : decide ((s5.length : Int) < (s5.length : Int)) = false := decide_eq_false (by omega)
    show st_num_Fits_98_0_0 (s5) ((s5.length : Int)) ((s5.length : Int)) = _
    unfold st_num_Fits_98_0_0 fn_num_Fits_98_0_0
    rw [e1]
    rfl
end Go.Proofs.Ytbdcblpjemmipaa.Ex

namespace Go.Proofs.Ytbdcblpjemmipaa.Ex
open Go.Proofs Go.Proofs.Ytbdcblpjemmipaa
set_option maxRecDepth 100000
set_option maxHeartbeats 2000000
set_option linter.unusedVariables false
set_option linter.unusedSimpArgs false
def ash_itv_Meet : List Sh := [.dat tI, .dat tI]
noncomputable def sp_itv_Meet : Nat → Option (List AV → Prog AV)
  | 92 => some (con_itv_Empty)
  | 89 => some (con_itv_None)
  | _ => none
theorem hsp_itv_Meet : ∀ g p, sp_itv_Meet g = some p → SoundA Try.prog g p := by
  intro g p h
  unfold sp_itv_Meet at h
  split at h
  · cases h; exact snd_itv_Empty
  · cases h; exact snd_itv_None
  · cases h
noncomputable def cx_itv_Meet : Ctx := { tab := tab, spec := sp_itv_Meet, inl := inl, lps := fun _ _ => none, fuel := 40 }
theorem in_itv_Meet : InlOk Try.prog cx_itv_Meet := ⟨inl_ok, fun _ _ _ _ _ _ _ _ h => nomatch h⟩
theorem cal_itv_Meet (g : Nat) : SoundA Try.prog g (evF cx_itv_Meet keeps 8 g) := evF_sound (tabOk_of tab_ok) (cmpsOk_of tab_ok cmps_ok) mixed in_itv_Meet hsp_itv_Meet keeps 8 g
noncomputable def g_itv_Meet (a0 : I) (a1 : I) : Option I :=
  bif decide (a0.1 > a0.2) then some (1, 0)
 else
 bif decide (a1.1 > a1.2) then some (1, 0)
 else
 bif decide ((if a1.1 > a0.1 then a1.1 else a0.1) > if a1.2 < a0.2 then a1.2 else a0.2) then some (1, 0)
 else some (if a1.1 > a0.1 then a1.1 else a0.1, if a1.2 < a0.2 then a1.2 else a0.2)
theorem raw_itv_Meet (a0 : I) (a1 : I) : evGX cx_itv_Meet keeps 8 132 ash_itv_Meet (.dat tI) ((a0, a1, ()) : (I × (I × Unit))) = g_itv_Meet a0 a1 := by kernel_rfl
noncomputable def G_itv_Meet (x : (I × (I × Unit))) : Option I := g_itv_Meet x.1 x.2.1
noncomputable def con_itv_Meet : List AV → Prog AV := conP true ash_itv_Meet (.dat tI) G_itv_Meet
theorem snd_itv_Meet : SoundA Try.prog 132 con_itv_Meet := conP_sound (cal_itv_Meet 132) true (by rfl) (by rfl) (fun x r e => (evGX_eq _ _ _ _ _ _ _).trans ((raw_itv_Meet x.1 x.2.1).trans e)) (.inl rfl)
end Go.Proofs.Ytbdcblpjemmipaa.Ex

namespace Go.Proofs.Ytbdcblpjemmipaa.Ex
open Go.Proofs Go.Proofs.Ytbdcblpjemmipaa
set_option maxRecDepth 100000
set_option maxHeartbeats 2000000
set_option linter.unusedVariables false
set_option linter.unusedSimpArgs false
def ash_itv_All : List Sh := []
noncomputable def sp_itv_All : Nat → Option (List AV → Prog AV)
  | _ => none
theorem hsp_itv_All : ∀ g p, sp_itv_All g = some p → SoundA Try.prog g p := by
  intro g p h
  unfold sp_itv_All at h
  split at h
  · cases h
noncomputable def cx_itv_All : Ctx := { tab := tab, spec := sp_itv_All, inl := inl, lps := fun _ _ => none, fuel := 40 }
theorem in_itv_All : InlOk Try.prog cx_itv_All := ⟨inl_ok, fun _ _ _ _ _ _ _ _ h => nomatch h⟩
theorem cal_itv_All (g : Nat) : SoundA Try.prog g (evF cx_itv_All keeps 8 g) := evF_sound (tabOk_of tab_ok) (cmpsOk_of tab_ok cmps_ok) mixed in_itv_All hsp_itv_All keeps 8 g
noncomputable def g_itv_All  : Option I :=
  some (-2147483648, 2147483647)
theorem raw_itv_All  : evGX cx_itv_All keeps 8 102 ash_itv_All (.dat tI) (() : Unit) = g_itv_All  := by kernel_rfl
noncomputable def G_itv_All (x : Unit) : Option I := g_itv_All 
noncomputable def con_itv_All : List AV → Prog AV := conP true ash_itv_All (.dat tI) G_itv_All
theorem snd_itv_All : SoundA Try.prog 102 con_itv_All := conP_sound (cal_itv_All 102) true (by rfl) (by rfl) (fun x r e => (evGX_eq _ _ _ _ _ _ _).trans ((raw_itv_All ).trans e)) (.inl rfl)
end Go.Proofs.Ytbdcblpjemmipaa.Ex

namespace Go.Proofs.Ytbdcblpjemmipaa.Ex
open Go.Proofs Go.Proofs.Ytbdcblpjemmipaa
set_option maxRecDepth 100000
set_option maxHeartbeats 2000000
set_option linter.unusedVariables false
set_option linter.unusedSimpArgs false
def ash_itv_Leq : List Sh := [.dat tI, .dat tI]
noncomputable def sp_itv_Leq : Nat → Option (List AV → Prog AV)
  | 92 => some (con_itv_Empty)
  | _ => none
theorem hsp_itv_Leq : ∀ g p, sp_itv_Leq g = some p → SoundA Try.prog g p := by
  intro g p h
  unfold sp_itv_Leq at h
  split at h
  · cases h; exact snd_itv_Empty
  · cases h
noncomputable def cx_itv_Leq : Ctx := { tab := tab, spec := sp_itv_Leq, inl := inl, lps := fun _ _ => none, fuel := 40 }
theorem in_itv_Leq : InlOk Try.prog cx_itv_Leq := ⟨inl_ok, fun _ _ _ _ _ _ _ _ h => nomatch h⟩
theorem cal_itv_Leq (g : Nat) : SoundA Try.prog g (evF cx_itv_Leq keeps 8 g) := evF_sound (tabOk_of tab_ok) (cmpsOk_of tab_ok cmps_ok) mixed in_itv_Leq hsp_itv_Leq keeps 8 g
noncomputable def g_itv_Leq (a0 : I) (a1 : I) : Option Bool :=
  bif decide (a0.1 > a0.2) then some true else bif decide (a0.1 ≥ a1.1) then some (decide (a0.2 ≤ a1.2)) else some false
theorem raw_itv_Leq (a0 : I) (a1 : I) : evGX cx_itv_Leq keeps 8 61 ash_itv_Leq (.dat .bool) ((a0, a1, ()) : (I × (I × Unit))) = g_itv_Leq a0 a1 := by kernel_rfl
noncomputable def G_itv_Leq (x : (I × (I × Unit))) : Option Bool := g_itv_Leq x.1 x.2.1
noncomputable def con_itv_Leq : List AV → Prog AV := conP true ash_itv_Leq (.dat .bool) G_itv_Leq
theorem snd_itv_Leq : SoundA Try.prog 61 con_itv_Leq := conP_sound (cal_itv_Leq 61) true (by rfl) (by rfl) (fun x r e => (evGX_eq _ _ _ _ _ _ _).trans ((raw_itv_Leq x.1 x.2.1).trans e)) (.inl rfl)
end Go.Proofs.Ytbdcblpjemmipaa.Ex

namespace Go.Proofs.Ytbdcblpjemmipaa.Ex
open Go.Proofs Go.Proofs.Ytbdcblpjemmipaa
set_option maxRecDepth 100000
set_option maxHeartbeats 2000000
set_option linter.unusedVariables false
set_option linter.unusedSimpArgs false
abbrev ty_103_0 : Type := ((Unit × (Unit × (Unit × (Unit × (Bool × (Unit × (Int × (Int × Unit)))))))) × ((Int × (Int × Unit)) × ((Int × (Int × Unit)) × ((Int × (Int × Unit)) × ((Int × (Int × Unit)) × ((List I) × Unit))))))
abbrev ty_103_1 : Type := ((Unit × (Unit × (Bool × Unit))) × ((Int × (Int × Unit)) × ((Int × (Int × Unit)) × Unit)))
abbrev ty_103_2 : Type := (Bool × Int × Int × Int × Int × Int × Int × Int × Int × Int × Int × (List I))
abbrev fn_103_0 := (fun (d : ty_103_0) => ((d.1.2.2.2.2.1, d.1.2.2.2.2.2.2.1, d.1.2.2.2.2.2.2.2.1, d.2.1.1, d.2.1.2.1, d.2.2.1.1, d.2.2.1.2.1, d.2.2.2.1.1, d.2.2.2.1.2.1, d.2.2.2.2.1.1, d.2.2.2.2.1.2.1, d.2.2.2.2.2.1) : ty_103_2))
abbrev fn_103_1 := (fun (x : (Bool × Int × Int × Int × Int)) => ((((), (), x.1, ()), ((x.2.1, x.2.2.1, ()), (x.2.2.2.1, x.2.2.2.2, ()), ())) : ty_103_1))
def ash_itv_quotients : List Sh := [.dat tI, .dat tI]
def kp_itv_quotients_149_0 : Nat → List Nat := fun c => bif c.beq 0 then [2, 3, 4, 6, 7, 15, 16, 17] else [4, 6, 7]
noncomputable def sp_itv_quotients : Nat → Option (List AV → Prog AV)
  | 89 => some (con_itv_None)
  | 132 => some (con_itv_Meet)
  | 92 => some (con_itv_Empty)
  | 102 => some (con_itv_All)
  | 55 => some (con_itv_Join)
  | 61 => some (con_itv_Leq)
  | _ => none
theorem hsp_itv_quotients : ∀ g p, sp_itv_quotients g = some p → SoundA Try.prog g p := by
  intro g p h
  unfold sp_itv_quotients at h
  split at h
  · cases h; exact snd_itv_None
  · cases h; exact snd_itv_Meet
  · cases h; exact snd_itv_Empty
  · cases h; exact snd_itv_All
  · cases h; exact snd_itv_Join
  · cases h; exact snd_itv_Leq
  · cases h
noncomputable def cx_itv_quotients0 : Ctx := { tab := tab, spec := sp_itv_quotients, inl := inl, lps := fun _ _ => none, fuel := 40 }
theorem in_itv_quotients0 : InlOk Try.prog cx_itv_quotients0 := ⟨inl_ok, fun _ _ _ _ _ _ _ _ h => nomatch h⟩
theorem cal_itv_quotients0 (g : Nat) : SoundA Try.prog g (evF cx_itv_quotients0 keeps 8 g) := evF_sound (tabOk_of tab_ok) (cmpsOk_of tab_ok cmps_ok) mixed in_itv_quotients0 hsp_itv_quotients keeps 8 g
noncomputable def F_itv_quotients_149_0 (base : Nat) : Tm → Prog (Nat × Tm) := evC cx_itv_quotients0 (evF cx_itv_quotients0 keeps 8) ⟨149, 46, keeps 149, base⟩ 0 (bodyX 149 0)
def s_itv_quotients_149_0_0 : StS := ⟨[(2, .ptr 0 0), (3, .ptr 1 0), (4, .ptr 2 0), (6, .ptr 3 0), (7, .bool), (15, .row 4), (16, .int .i64), (17, .int .i64)], [(0, .box [.int .i64, .int .i64]), (1, .box [.int .i64, .int .i64]), (2, .box [.int .i64, .int .i64]), (3, .box [.int .i64, .int .i64]), (4, .row tI)], 5⟩
def x_itv_quotients_149_0_0_0 : StS := ⟨[(4, .ptr 0 0), (6, .ptr 1 0), (7, .bool)], [(0, .box [.int .i64, .int .i64]), (1, .box [.int .i64, .int .i64])], 2⟩
noncomputable def st_itv_quotients_149_0_0 (s7 : Bool) (s16 : Int) (s17 : Int) (b0 : Int) (b0_1 : Int) (b1 : Int) (b1_1 : Int) (b2 : Int) (b2_1 : Int) (b3 : Int) (b3_1 : Int) (b4 : (List I)) : Option (ty_103_2 ⊕ (Bool × Int × Int × Int × Int)) :=
  bif decide (s17 < s16) then
 bif decide (0 ≤ s17) then
 optC b4[s17.toNat]? none fun d14 ↦
 optC b4[s17.toNat]? none fun d15 ↦
 optC (G_itv_Meet ((b1, b1_1), d15, ())) none fun d16 ↦
 bif !decide (d16.1 > d16.2) then
 bif decide (d16.1 = 0) then none
 else
 bif decide (d16.2 = 0) then none
 else
 bif decide (d16.1 = 0) then none
 else
 bif decide (d16.2 = 0) then none
 else
 optC
 (G_itv_Meet
 ((if
 Go.IntKind.i64.wrap (b0_1.tdiv d16.2) <
 if
 Go.IntKind.i64.wrap (b0_1.tdiv d16.1) <
 if Go.IntKind.i64.wrap (b0.tdiv d16.2) < Go.IntKind.i64.wrap (b0.tdiv d16.1) then Go.IntKind.i64.wrap (b0.tdiv d16.2)
 else Go.IntKind.i64.wrap (b0.tdiv d16.1) then
 Go.IntKind.i64.wrap (b0_1.tdiv d16.1)
 else
 if Go.IntKind.i64.wrap (b0.tdiv d16.2) < Go.IntKind.i64.wrap (b0.tdiv d16.1) then Go.IntKind.i64.wrap (b0.tdiv d16.2)
 else Go.IntKind.i64.wrap (b0.tdiv d16.1) then
 Go.IntKind.i64.wrap (b0_1.tdiv d16.2)
 else
 if
 Go.IntKind.i64.wrap (b0_1.tdiv d16.1) <
 if Go.IntKind.i64.wrap (b0.tdiv d16.2) < Go.IntKind.i64.wrap (b0.tdiv d16.1) then Go.IntKind.i64.wrap (b0.tdiv d16.2)
 else Go.IntKind.i64.wrap (b0.tdiv d16.1) then
 Go.IntKind.i64.wrap (b0_1.tdiv d16.1)
 else
 if Go.IntKind.i64.wrap (b0.tdiv d16.2) < Go.IntKind.i64.wrap (b0.tdiv d16.1) then Go.IntKind.i64.wrap (b0.tdiv d16.2) else Go.IntKind.i64.wrap (b0.tdiv d16.1),
 if
 Go.IntKind.i64.wrap (b0_1.tdiv d16.2) >
 if
 Go.IntKind.i64.wrap (b0_1.tdiv d16.1) >
 if Go.IntKind.i64.wrap (b0.tdiv d16.2) > Go.IntKind.i64.wrap (b0.tdiv d16.1) then Go.IntKind.i64.wrap (b0.tdiv d16.2)
 else Go.IntKind.i64.wrap (b0.tdiv d16.1) then
 Go.IntKind.i64.wrap (b0_1.tdiv d16.1)
 else
 if Go.IntKind.i64.wrap (b0.tdiv d16.2) > Go.IntKind.i64.wrap (b0.tdiv d16.1) then Go.IntKind.i64.wrap (b0.tdiv d16.2)
 else Go.IntKind.i64.wrap (b0.tdiv d16.1) then
 Go.IntKind.i64.wrap (b0_1.tdiv d16.2)
 else
 if
 Go.IntKind.i64.wrap (b0_1.tdiv d16.1) >
 if Go.IntKind.i64.wrap (b0.tdiv d16.2) > Go.IntKind.i64.wrap (b0.tdiv d16.1) then Go.IntKind.i64.wrap (b0.tdiv d16.2)
 else Go.IntKind.i64.wrap (b0.tdiv d16.1) then
 Go.IntKind.i64.wrap (b0_1.tdiv d16.1)
 else
 if Go.IntKind.i64.wrap (b0.tdiv d16.2) > Go.IntKind.i64.wrap (b0.tdiv d16.1) then Go.IntKind.i64.wrap (b0.tdiv d16.2) else Go.IntKind.i64.wrap (b0.tdiv d16.1)),
 (-2147483648, 2147483647), ()))
 none fun d17 ↦
 optC (G_itv_Join ([(b3, b3_1), d17], ())) none fun d18 ↦
 bif s7 then some (Sum.inl (true, s16, Go.IntKind.i64.wrap (s17 + 1), b0, b0_1, b1, b1_1, b2, b2_1, d18.1, d18.2, b4))
 else
 optC
 (G_itv_Leq
 ((if
 Go.IntKind.i64.wrap (b0_1.tdiv d16.2) <
 if
 Go.IntKind.i64.wrap (b0_1.tdiv d16.1) <
 if Go.IntKind.i64.wrap (b0.tdiv d16.2) < Go.IntKind.i64.wrap (b0.tdiv d16.1) then Go.IntKind.i64.wrap (b0.tdiv d16.2)
 else Go.IntKind.i64.wrap (b0.tdiv d16.1) then
 Go.IntKind.i64.wrap (b0_1.tdiv d16.1)
 else
 if Go.IntKind.i64.wrap (b0.tdiv d16.2) < Go.IntKind.i64.wrap (b0.tdiv d16.1) then Go.IntKind.i64.wrap (b0.tdiv d16.2)
 else Go.IntKind.i64.wrap (b0.tdiv d16.1) then
 Go.IntKind.i64.wrap (b0_1.tdiv d16.2)
 else
 if
 Go.IntKind.i64.wrap (b0_1.tdiv d16.1) <
 if Go.IntKind.i64.wrap (b0.tdiv d16.2) < Go.IntKind.i64.wrap (b0.tdiv d16.1) then Go.IntKind.i64.wrap (b0.tdiv d16.2)
 else Go.IntKind.i64.wrap (b0.tdiv d16.1) then
 Go.IntKind.i64.wrap (b0_1.tdiv d16.1)
 else
 if Go.IntKind.i64.wrap (b0.tdiv d16.2) < Go.IntKind.i64.wrap (b0.tdiv d16.1) then Go.IntKind.i64.wrap (b0.tdiv d16.2)
 else Go.IntKind.i64.wrap (b0.tdiv d16.1),
 if
 Go.IntKind.i64.wrap (b0_1.tdiv d16.2) >
 if
 Go.IntKind.i64.wrap (b0_1.tdiv d16.1) >
 if Go.IntKind.i64.wrap (b0.tdiv d16.2) > Go.IntKind.i64.wrap (b0.tdiv d16.1) then Go.IntKind.i64.wrap (b0.tdiv d16.2)
 else Go.IntKind.i64.wrap (b0.tdiv d16.1) then
 Go.IntKind.i64.wrap (b0_1.tdiv d16.1)
 else
 if Go.IntKind.i64.wrap (b0.tdiv d16.2) > Go.IntKind.i64.wrap (b0.tdiv d16.1) then Go.IntKind.i64.wrap (b0.tdiv d16.2)
 else Go.IntKind.i64.wrap (b0.tdiv d16.1) then
 Go.IntKind.i64.wrap (b0_1.tdiv d16.2)
 else
 if
 Go.IntKind.i64.wrap (b0_1.tdiv d16.1) >
 if Go.IntKind.i64.wrap (b0.tdiv d16.2) > Go.IntKind.i64.wrap (b0.tdiv d16.1) then Go.IntKind.i64.wrap (b0.tdiv d16.2)
 else Go.IntKind.i64.wrap (b0.tdiv d16.1) then
 Go.IntKind.i64.wrap (b0_1.tdiv d16.1)
 else
 if Go.IntKind.i64.wrap (b0.tdiv d16.2) > Go.IntKind.i64.wrap (b0.tdiv d16.1) then Go.IntKind.i64.wrap (b0.tdiv d16.2)
 else Go.IntKind.i64.wrap (b0.tdiv d16.1)),
 (-2147483648, 2147483647), ()))
 none fun d19 ↦ some (Sum.inl (!d19, s16, Go.IntKind.i64.wrap (s17 + 1), b0, b0_1, b1, b1_1, b2, b2_1, d18.1, d18.2, b4))
 else some (Sum.inl (s7, s16, Go.IntKind.i64.wrap (s17 + 1), b0, b0_1, b1, b1_1, b2, b2_1, b3, b3_1, b4))
 else none
 else some (Sum.inr (s7, b2, b2_1, b3, b3_1))
theorem rn_itv_quotients_149_0_0 (s7 : Bool) (s16 : Int) (s17 : Int) (b0 : Int) (b0_1 : Int) (b1 : Int) (b1_1 : Int) (b2 : Int) (b2_1 : Int) (b3 : Int) (b3_1 : Int) (b4 : (List I)) : rdX cx_itv_quotients0 keeps 8 ⟨149, 46, keeps 149, 0⟩ 0 (bodyX 149 0) 0 kp_itv_quotients_149_0 (sT s_itv_quotients_149_0_0 (((), (), (), (), s7, (), s16, s17, ()), ((b0, b0_1, ()), (b1, b1_1, ()), (b2, b2_1, ()), (b3, b3_1, ()), b4, ()))) (sH s_itv_quotients_149_0_0 (((), (), (), (), s7, (), s16, s17, ()), ((b0, b0_1, ()), (b1, b1_1, ()), (b2, b2_1, ()), (b3, b3_1, ()), b4, ()))) (rdO (fun T h => (rdS s_itv_quotients_149_0_0 T h).map fn_103_0) (getE 2 x_itv_quotients_149_0_0_0 (fun (d : ty_103_1) => ((d.1.2.2.1, d.2.1.1, d.2.1.2.1, d.2.2.1.1, d.2.2.1.2.1) : (Bool × Int × Int × Int × Int))))) = st_itv_quotients_149_0_0 s7 s16 s17 b0 b0_1 b1 b1_1 b2 b2_1 b3 b3_1 b4 := by kernel_rfl
noncomputable def L_itv_quotients_149_0_0 (x : ty_103_2) : Option (Bool × Int × Int × Int × Int) := iterO (fun x => st_itv_quotients_149_0_0 x.1 x.2.1 x.2.2.1 x.2.2.2.1 x.2.2.2.2.1 x.2.2.2.2.2.1 x.2.2.2.2.2.2.1 x.2.2.2.2.2.2.2.1 x.2.2.2.2.2.2.2.2.1 x.2.2.2.2.2.2.2.2.2.1 x.2.2.2.2.2.2.2.2.2.2.1 x.2.2.2.2.2.2.2.2.2.2.2) FUEL x
noncomputable def q_itv_quotients_149_0 : Nat → Tm → Prog (Nat × Tm) := (varP 0 (fun T h => (rdS s_itv_quotients_149_0_0 T h).map fn_103_0) L_itv_quotients_149_0_0 (altE 2 x_itv_quotients_149_0_0_0 fn_103_1) (fun _ _ => .fail))
theorem ok_itv_quotients_149_0 : VarOk kp_itv_quotients_149_0 F_itv_quotients_149_0 q_itv_quotients_149_0 := (varX_ok (s := s_itv_quotients_149_0_0) (un := (fun (x : ty_103_2) => ((((), (), (), (), x.1, (), x.2.1, x.2.2.1, ()), ((x.2.2.2.1, x.2.2.2.2.1, ()), (x.2.2.2.2.2.1, x.2.2.2.2.2.2.1, ()), (x.2.2.2.2.2.2.2.1, x.2.2.2.2.2.2.2.2.1, ()), (x.2.2.2.2.2.2.2.2.2.1, x.2.2.2.2.2.2.2.2.2.2.1, ()), x.2.2.2.2.2.2.2.2.2.2.2, ())) : ty_103_0))) (by rfl) (fun _ => rfl) (getE_ok (s := x_itv_quotients_149_0_0_0) (un := fn_103_1) (by rfl) (fun _ => rfl)) (step := fun x => st_itv_quotients_149_0_0 x.1 x.2.1 x.2.2.1 x.2.2.2.1 x.2.2.2.2.1 x.2.2.2.2.2.1 x.2.2.2.2.2.2.1 x.2.2.2.2.2.2.2.1 x.2.2.2.2.2.2.2.2.1 x.2.2.2.2.2.2.2.2.2.1 x.2.2.2.2.2.2.2.2.2.2.1 x.2.2.2.2.2.2.2.2.2.2.2) (fun x => rn_itv_quotients_149_0_0 x.1 x.2.1 x.2.2.1 x.2.2.2.1 x.2.2.2.2.1 x.2.2.2.2.2.1 x.2.2.2.2.2.2.1 x.2.2.2.2.2.2.2.1 x.2.2.2.2.2.2.2.2.1 x.2.2.2.2.2.2.2.2.2.1 x.2.2.2.2.2.2.2.2.2.2.1 x.2.2.2.2.2.2.2.2.2.2.2) (fun _ _ e => ⟨_, e⟩) (altE_ok 2 x_itv_quotients_149_0_0_0 fn_103_1) (VarOk.fail _ _))
noncomputable def lpI_itv_quotients_149_0 (base : Nat) (T : Tm) : Prog (Nat × Tm) := .norm base (kp_itv_quotients_149_0 0) T (q_itv_quotients_149_0 base)
theorem sndI_itv_quotients_149_0 : SoundC Try.prog 46 (.loop (bodyX 149 0)) lpI_itv_quotients_149_0 := loopK_sound (cx := cx_itv_quotients0) (cal := evF cx_itv_quotients0 keeps 8) (kp := keeps 149) (tabOk_of tab_ok) (cmpsOk_of tab_ok cmps_ok) cal_itv_quotients0 mixed (hl_of (g := 149) (b := 0) in_itv_quotients0 (by kernel_rfl) (by kernel_rfl)) ok_itv_quotients_149_0
noncomputable def lpL_itv_quotients_149_0 : Nat → Tm → Prog (Nat × Tm) := lpI_itv_quotients_149_0
theorem sndL_itv_quotients_149_0 : SoundC Try.prog 46 (.loop (bodyX 149 0)) lpL_itv_quotients_149_0 := sndI_itv_quotients_149_0
noncomputable def lp_itv_quotients : Nat → Nat → Option (Nat → Tm → Prog (Nat × Tm))
  | 149, 0 => some lpL_itv_quotients_149_0
  | _, _ => none
noncomputable def cx_itv_quotients : Ctx := { tab := tab, spec := sp_itv_quotients, inl := inl, lps := lp_itv_quotients, fuel := 40 }
theorem in_itv_quotients : InlOk Try.prog cx_itv_quotients := ⟨inl_ok, fun g fn c hg hb q hq p hp => by
  change lp_itv_quotients g q.1 = some p at hp
  change inl g = some fn at hg
  generalize hq1 : q.1 = b at hp
  unfold lp_itv_quotients at hp
  split at hp
  · cases hp; exact lps_case (inl := inl) hg hb hq hq1 (by kernel_rfl) (by kernel_rfl) sndL_itv_quotients_149_0
  · cases hp⟩
theorem cal_itv_quotients (g : Nat) : SoundA Try.prog g (evF cx_itv_quotients keeps 8 g) := evF_sound (tabOk_of tab_ok) (cmpsOk_of tab_ok cmps_ok) mixed in_itv_quotients hsp_itv_quotients keeps 8 g
noncomputable def g_itv_quotients (a0 : I) (a1 : I) : Option (I × (Bool × Unit)) :=
  optC (L_itv_quotients_149_0_0 (false, (↑[(1, 2147483647), (-2147483648, -1)].length : Int), 0, a0.1, a0.2, a1.1, a1.2, 0, 0, 1, 0, [(1, 2147483647), (-2147483648, -1)])) none
 fun d4 ↦ some ((d4.2.2.2.1, d4.2.2.2.2), d4.1, PUnit.unit)
theorem raw_itv_quotients (a0 : I) (a1 : I) : evGX cx_itv_quotients keeps 8 149 ash_itv_quotients (.tup [.dat tI, .dat .bool]) ((a0, a1, ()) : (I × (I × Unit))) = g_itv_quotients a0 a1 := by kernel_rfl
noncomputable def G_itv_quotients (x : (I × (I × Unit))) : Option (I × (Bool × Unit)) := g_itv_quotients x.1 x.2.1
noncomputable def con_itv_quotients : List AV → Prog AV := conP true ash_itv_quotients (.tup [.dat tI, .dat .bool]) G_itv_quotients
theorem snd_itv_quotients : SoundA Try.prog 149 con_itv_quotients := conP_sound (cal_itv_quotients 149) true (by rfl) (by rfl) (fun x r e => (evGX_eq _ _ _ _ _ _ _).trans ((raw_itv_quotients x.1 x.2.1).trans e)) (.inl rfl)
end Go.Proofs.Ytbdcblpjemmipaa.Ex

namespace Go.Proofs.Ytbdcblpjemmipaa.Ex
set_option maxRecDepth 100000
set_option maxHeartbeats 2000000
set_option linter.unusedVariables false
set_option linter.unusedSimpArgs false
noncomputable def bd_itv_quotients_149_0_0 (b0 : Int) (b0_1 : Int) (b1 : Int) (b1_1 : Int) (b2 : Int) (b2_1 : Int) (b4 : (List I)) (i : Nat) (s7 : Bool) (b3 : Int) (b3_1 : Int) (d : I) : Option ((Bool × Int × Int) ⊕ (Bool × Int × Int × Int × Int)) :=
  optC (G_itv_Meet ((b1, b1_1), d, ())) (none) fun d16 ↦
   bif !decide (d16.1 > d16.2) then
   bif decide (d16.1 = 0) then
   none
 else bif decide (d16.2 = 0) then
   none
 else bif decide (d16.1 = 0) then
   none
 else bif decide (d16.2 = 0) then
   none
 else optC (G_itv_Meet ((if Go.IntKind.i64.wrap (b0_1.tdiv d16.2) < if Go.IntKind.i64.wrap (b0_1.tdiv d16.1) < if Go.IntKind.i64.wrap (b0.tdiv d16.2) < Go.IntKind.i64.wrap (b0.tdiv d16.1) then Go.IntKind.i64.wrap (b0.tdiv d16.2) else Go.IntKind.i64.wrap (b0.tdiv d16.1) then Go.IntKind.i64.wrap (b0_1.tdiv d16.1) else if Go.IntKind.i64.wrap (b0.tdiv d16.2) < Go.IntKind.i64.wrap (b0.tdiv d16.1) then Go.IntKind.i64.wrap (b0.tdiv d16.2) else Go.IntKind.i64.wrap (b0.tdiv d16.1) then Go.IntKind.i64.wrap (b0_1.tdiv d16.2) else if Go.IntKind.i64.wrap (b0_1.tdiv d16.1) < if Go.IntKind.i64.wrap (b0.tdiv d16.2) < Go.IntKind.i64.wrap (b0.tdiv d16.1) then Go.IntKind.i64.wrap (b0.tdiv d16.2) else Go.IntKind.i64.wrap (b0.tdiv d16.1) then Go.IntKind.i64.wrap (b0_1.tdiv d16.1) else if Go.IntKind.i64.wrap (b0.tdiv d16.2) < Go.IntKind.i64.wrap (b0.tdiv d16.1) then Go.IntKind.i64.wrap (b0.tdiv d16.2) else Go.IntKind.i64.wrap (b0.tdiv d16.1), if Go.IntKind.i64.wrap (b0_1.tdiv d16.2) > if Go.IntKind.i64.wrap (b0_1.tdiv d16.1) > if Go.IntKind.i64.wrap (b0.tdiv d16.2) > Go.IntKind.i64.wrap (b0.tdiv d16.1) then Go.IntKind.i64.wrap (b0.tdiv d16.2) else Go.IntKind.i64.wrap (b0.tdiv d16.1) then Go.IntKind.i64.wrap (b0_1.tdiv d16.1) else if Go.IntKind.i64.wrap (b0.tdiv d16.2) > Go.IntKind.i64.wrap (b0.tdiv d16.1) then Go.IntKind.i64.wrap (b0.tdiv d16.2) else Go.IntKind.i64.wrap (b0.tdiv d16.1) then Go.IntKind.i64.wrap (b0_1.tdiv d16.2) else if Go.IntKind.i64.wrap (b0_1.tdiv d16.1) > if Go.IntKind.i64.wrap (b0.tdiv d16.2) > Go.IntKind.i64.wrap (b0.tdiv d16.1) then Go.IntKind.i64.wrap (b0.tdiv d16.2) else Go.IntKind.i64.wrap (b0.tdiv d16.1) then Go.IntKind.i64.wrap (b0_1.tdiv d16.1) else if Go.IntKind.i64.wrap (b0.tdiv d16.2) > Go.IntKind.i64.wrap (b0.tdiv d16.1) then Go.IntKind.i64.wrap (b0.tdiv d16.2) else Go.IntKind.i64.wrap (b0.tdiv d16.1)), (-2147483648, 2147483647), ())) (none) fun d17 ↦
   optC (G_itv_Join ([(b3, b3_1), d17], ())) (none) fun d18 ↦
   bif s7 then
   some (Sum.inl (true, d18.1, d18.2))
 else optC (G_itv_Leq ((if Go.IntKind.i64.wrap (b0_1.tdiv d16.2) < if Go.IntKind.i64.wrap (b0_1.tdiv d16.1) < if Go.IntKind.i64.wrap (b0.tdiv d16.2) < Go.IntKind.i64.wrap (b0.tdiv d16.1) then Go.IntKind.i64.wrap (b0.tdiv d16.2) else Go.IntKind.i64.wrap (b0.tdiv d16.1) then Go.IntKind.i64.wrap (b0_1.tdiv d16.1) else if Go.IntKind.i64.wrap (b0.tdiv d16.2) < Go.IntKind.i64.wrap (b0.tdiv d16.1) then Go.IntKind.i64.wrap (b0.tdiv d16.2) else Go.IntKind.i64.wrap (b0.tdiv d16.1) then Go.IntKind.i64.wrap (b0_1.tdiv d16.2) else if Go.IntKind.i64.wrap (b0_1.tdiv d16.1) < if Go.IntKind.i64.wrap (b0.tdiv d16.2) < Go.IntKind.i64.wrap (b0.tdiv d16.1) then Go.IntKind.i64.wrap (b0.tdiv d16.2) else Go.IntKind.i64.wrap (b0.tdiv d16.1) then Go.IntKind.i64.wrap (b0_1.tdiv d16.1) else if Go.IntKind.i64.wrap (b0.tdiv d16.2) < Go.IntKind.i64.wrap (b0.tdiv d16.1) then Go.IntKind.i64.wrap (b0.tdiv d16.2) else Go.IntKind.i64.wrap (b0.tdiv d16.1), if Go.IntKind.i64.wrap (b0_1.tdiv d16.2) > if Go.IntKind.i64.wrap (b0_1.tdiv d16.1) > if Go.IntKind.i64.wrap (b0.tdiv d16.2) > Go.IntKind.i64.wrap (b0.tdiv d16.1) then Go.IntKind.i64.wrap (b0.tdiv d16.2) else Go.IntKind.i64.wrap (b0.tdiv d16.1) then Go.IntKind.i64.wrap (b0_1.tdiv d16.1) else if Go.IntKind.i64.wrap (b0.tdiv d16.2) > Go.IntKind.i64.wrap (b0.tdiv d16.1) then Go.IntKind.i64.wrap (b0.tdiv d16.2) else Go.IntKind.i64.wrap (b0.tdiv d16.1) then Go.IntKind.i64.wrap (b0_1.tdiv d16.2) else if Go.IntKind.i64.wrap (b0_1.tdiv d16.1) > if Go.IntKind.i64.wrap (b0.tdiv d16.2) > Go.IntKind.i64.wrap (b0.tdiv d16.1) then Go.IntKind.i64.wrap (b0.tdiv d16.2) else Go.IntKind.i64.wrap (b0.tdiv d16.1) then Go.IntKind.i64.wrap (b0_1.tdiv d16.1) else if Go.IntKind.i64.wrap (b0.tdiv d16.2) > Go.IntKind.i64.wrap (b0.tdiv d16.1) then Go.IntKind.i64.wrap (b0.tdiv d16.2) else Go.IntKind.i64.wrap (b0.tdiv d16.1)), (-2147483648, 2147483647), ())) (none) fun d19 ↦
   some (Sum.inl (!d19, d18.1, d18.2))
 else some (Sum.inl (s7, b3, b3_1))
noncomputable def fn_itv_quotients_149_0_0 (b0 : Int) (b0_1 : Int) (b1 : Int) (b1_1 : Int) (b2 : Int) (b2_1 : Int) (b4 : (List I)) (s7 : Bool) (b3 : Int) (b3_1 : Int) : Option (Bool × Int × Int × Int × Int) :=
  some (s7, b2, b2_1, b3, b3_1)
noncomputable abbrev rx_itv_quotients_149_0_0 (b0 : Int) (b0_1 : Int) (b1 : Int) (b1_1 : Int) (b2 : Int) (b2_1 : Int) (b4 : (List I)) (i : Nat) (s : (Bool × Int × Int)) : (Bool × Int × Int × Int × Int × Int × Int × Int × Int × Int × Int × (List I)) := (s.1, (b4.length : Int), (i : Int), b0, b0_1, b1, b1_1, b2, b2_1, s.2.1, s.2.2, b4)
noncomputable def rv_itv_quotients_149_0_0 (b0 : Int) (b0_1 : Int) (b1 : Int) (b1_1 : Int) (b2 : Int) (b2_1 : Int) (b4 : (List I)) (s : (Bool × Int × Int)) : Option (Bool × Int × Int × Int × Int) := rangeO (fun i s d => bd_itv_quotients_149_0_0 b0 b0_1 b1 b1_1 b2 b2_1 b4 i s.1 s.2.1 s.2.2 d) (fun s => fn_itv_quotients_149_0_0 b0 b0_1 b1 b1_1 b2 b2_1 b4 s.1 s.2.1 s.2.2) 0 b4 s
theorem rg_itv_quotients_149_0_0 (b0 : Int) (b0_1 : Int) (b1 : Int) (b1_1 : Int) (b2 : Int) (b2_1 : Int) (b4 : (List I)) (s : (Bool × Int × Int)) (hl : b4.length < 9223372036854775807) : L_itv_quotients_149_0_0 (s.1, (b4.length : Int), 0, b0, b0_1, b1, b1_1, b2, b2_1, s.2.1, s.2.2, b4) = rv_itv_quotients_149_0_0 b0 b0_1 b1 b1_1 b2 b2_1 b4 s := by
  unfold L_itv_quotients_149_0_0 rv_itv_quotients_149_0_0
  refine iterO_range0 b4 (rx_itv_quotients_149_0_0 b0 b0_1 b1 b1_1 b2 b2_1 b4) _ _ ?_ ?_ s (by unfold FUEL; omega)
  · intro i s d hi hd
    have e1 : decide ((i : Int) < (b4.length : Int)) = true := decide_eq_true (by omega)
    have e2 : decide (0 ≤ (i : Int)) = true := decide_eq_true (by omega)
    have e3 : Int.toNat (i : Int) = i := Int.toNat_natCast i
    have e4 := wrap_next hi (Nat.le_of_lt hl)
    show st_itv_quotients_149_0_0 (s.1) ((b4.length : Int)) ((i : Int)) (b0) (b0_1) (b1) (b1_1) (b2) (b2_1) (s.2.1) (s.2.2) (b4) = upd _ (bd_itv_quotients_149_0_0 b0 b0_1 b1 b1_1 b2 b2_1 b4 i s.1 s.2.1 s.2.2 d)
    unfold st_itv_quotients_149_0_0 bd_itv_quotients_149_0_0
    simp only [e1, e2, e3, e4, hd, cond_true, cond_false, optC_some, upd_cond, upd_optC, upd_elim, upd_inl, upd_inr, upd_none]
  · intro s
    have e1 : decide ((b4.length : Int) < (b4.length : Int)) = false := decide_eq_false (by omega)
    show st_itv_quotients_149_0_0 (s.1) ((b4.length : Int)) ((b4.length : Int)) (b0) (b0_1) (b1) (b1_1) (b2) (b2_1) (s.2.1) (s.2.2) (b4) = _
    unfold st_itv_quotients_149_0_0 fn_itv_quotients_149_0_0
    rw [e1]
    rfl
end Go.Proofs.Ytbdcblpjemmipaa.Ex

namespace Go.Proofs.Ytbdcblpjemmipaa.Ex
open Go.Proofs Go.Proofs.Ytbdcblpjemmipaa
set_option maxRecDepth 100000
set_option maxHeartbeats 2000000
set_option linter.unusedVariables false
set_option linter.unusedSimpArgs false
def ash_itv_Has : List Sh := [.dat tI, .dat (.int .i64)]
noncomputable def sp_itv_Has : Nat → Option (List AV → Prog AV)
  | _ => none
theorem hsp_itv_Has : ∀ g p, sp_itv_Has g = some p → SoundA Try.prog g p := by
  intro g p h
  unfold sp_itv_Has at h
  split at h
  · cases h
noncomputable def cx_itv_Has : Ctx := { tab := tab, spec := sp_itv_Has, inl := inl, lps := fun _ _ => none, fuel := 40 }
theorem in_itv_Has : InlOk Try.prog cx_itv_Has := ⟨inl_ok, fun _ _ _ _ _ _ _ _ h => nomatch h⟩
theorem cal_itv_Has (g : Nat) : SoundA Try.prog g (evF cx_itv_Has keeps 8 g) := evF_sound (tabOk_of tab_ok) (cmpsOk_of tab_ok cmps_ok) mixed in_itv_Has hsp_itv_Has keeps 8 g
noncomputable def g_itv_Has (a0 : I) (a1 : Int) : Option Bool :=
  bif decide (a1 ≥ a0.1) then some (decide (a1 ≤ a0.2)) else some false
theorem raw_itv_Has (a0 : I) (a1 : Int) : evGX cx_itv_Has keeps 8 150 ash_itv_Has (.dat .bool) ((a0, a1, ()) : (I × (Int × Unit))) = g_itv_Has a0 a1 := by kernel_rfl
noncomputable def G_itv_Has (x : (I × (Int × Unit))) : Option Bool := g_itv_Has x.1 x.2.1
noncomputable def con_itv_Has : List AV → Prog AV := conP true ash_itv_Has (.dat .bool) G_itv_Has
theorem snd_itv_Has : SoundA Try.prog 150 con_itv_Has := conP_sound (cal_itv_Has 150) true (by rfl) (by rfl) (fun x r e => (evGX_eq _ _ _ _ _ _ _).trans ((raw_itv_Has x.1 x.2.1).trans e)) (.inl rfl)
end Go.Proofs.Ytbdcblpjemmipaa.Ex

namespace Go.Proofs.Ytbdcblpjemmipaa.Ex
open Go.Proofs Go.Proofs.Ytbdcblpjemmipaa
set_option maxRecDepth 100000
set_option maxHeartbeats 2000000
set_option linter.unusedVariables false
set_option linter.unusedSimpArgs false
def ash_itv_rests : List Sh := [.dat tI, .dat tI]
noncomputable def sp_itv_rests : Nat → Option (List AV → Prog AV)
  | 89 => some (con_itv_None)
  | _ => none
theorem hsp_itv_rests : ∀ g p, sp_itv_rests g = some p → SoundA Try.prog g p := by
  intro g p h
  unfold sp_itv_rests at h
  split at h
  · cases h; exact snd_itv_None
  · cases h
noncomputable def cx_itv_rests : Ctx := { tab := tab, spec := sp_itv_rests, inl := inl, lps := fun _ _ => none, fuel := 40 }
theorem in_itv_rests : InlOk Try.prog cx_itv_rests := ⟨inl_ok, fun _ _ _ _ _ _ _ _ h => nomatch h⟩
theorem cal_itv_rests (g : Nat) : SoundA Try.prog g (evF cx_itv_rests keeps 8 g) := evF_sound (tabOk_of tab_ok) (cmpsOk_of tab_ok cmps_ok) mixed in_itv_rests hsp_itv_rests keeps 8 g
noncomputable def g_itv_rests (a0 : I) (a1 : I) : Option I :=
  bif a1.1 == 0 && a1.2 == 0 then some (1, 0)
 else
 bif decide (a0.1 < 0) then
 bif decide (a0.2 > 0) then
 some
 (if
 Go.IntKind.i64.wrap
 (0 -
 Go.IntKind.i64.wrap
 ((if
 Go.IntKind.i64.wrap (0 - a1.1) >
 if a1.1 > if Go.IntKind.i64.wrap (0 - a1.2) > a1.2 then Go.IntKind.i64.wrap (0 - a1.2) else a1.2 then a1.1
 else if Go.IntKind.i64.wrap (0 - a1.2) > a1.2 then Go.IntKind.i64.wrap (0 - a1.2) else a1.2 then
 Go.IntKind.i64.wrap (0 - a1.1)
 else
 if a1.1 > if Go.IntKind.i64.wrap (0 - a1.2) > a1.2 then Go.IntKind.i64.wrap (0 - a1.2) else a1.2 then a1.1
 else if Go.IntKind.i64.wrap (0 - a1.2) > a1.2 then Go.IntKind.i64.wrap (0 - a1.2) else a1.2) -
 1)) >
 a0.1 then
 Go.IntKind.i64.wrap
 (0 -
 Go.IntKind.i64.wrap
 ((if
 Go.IntKind.i64.wrap (0 - a1.1) >
 if a1.1 > if Go.IntKind.i64.wrap (0 - a1.2) > a1.2 then Go.IntKind.i64.wrap (0 - a1.2) else a1.2 then a1.1
 else if Go.IntKind.i64.wrap (0 - a1.2) > a1.2 then Go.IntKind.i64.wrap (0 - a1.2) else a1.2 then
 Go.IntKind.i64.wrap (0 - a1.1)
 else
 if a1.1 > if Go.IntKind.i64.wrap (0 - a1.2) > a1.2 then Go.IntKind.i64.wrap (0 - a1.2) else a1.2 then a1.1
 else if Go.IntKind.i64.wrap (0 - a1.2) > a1.2 then Go.IntKind.i64.wrap (0 - a1.2) else a1.2) -
 1))
 else a0.1,
 if
 Go.IntKind.i64.wrap
 ((if
 Go.IntKind.i64.wrap (0 - a1.1) >
 if a1.1 > if Go.IntKind.i64.wrap (0 - a1.2) > a1.2 then Go.IntKind.i64.wrap (0 - a1.2) else a1.2 then a1.1
 else if Go.IntKind.i64.wrap (0 - a1.2) > a1.2 then Go.IntKind.i64.wrap (0 - a1.2) else a1.2 then
 Go.IntKind.i64.wrap (0 - a1.1)
 else
 if a1.1 > if Go.IntKind.i64.wrap (0 - a1.2) > a1.2 then Go.IntKind.i64.wrap (0 - a1.2) else a1.2 then a1.1
 else if Go.IntKind.i64.wrap (0 - a1.2) > a1.2 then Go.IntKind.i64.wrap (0 - a1.2) else a1.2) -
 1) <
 a0.2 then
 Go.IntKind.i64.wrap
 ((if
 Go.IntKind.i64.wrap (0 - a1.1) >
 if a1.1 > if Go.IntKind.i64.wrap (0 - a1.2) > a1.2 then Go.IntKind.i64.wrap (0 - a1.2) else a1.2 then a1.1
 else if Go.IntKind.i64.wrap (0 - a1.2) > a1.2 then Go.IntKind.i64.wrap (0 - a1.2) else a1.2 then
 Go.IntKind.i64.wrap (0 - a1.1)
 else
 if a1.1 > if Go.IntKind.i64.wrap (0 - a1.2) > a1.2 then Go.IntKind.i64.wrap (0 - a1.2) else a1.2 then a1.1
 else if Go.IntKind.i64.wrap (0 - a1.2) > a1.2 then Go.IntKind.i64.wrap (0 - a1.2) else a1.2) -
 1)
 else a0.2)
 else
 some
 (if
 Go.IntKind.i64.wrap
 (0 -
 Go.IntKind.i64.wrap
 ((if
 Go.IntKind.i64.wrap (0 - a1.1) >
 if a1.1 > if Go.IntKind.i64.wrap (0 - a1.2) > a1.2 then Go.IntKind.i64.wrap (0 - a1.2) else a1.2 then a1.1
 else if Go.IntKind.i64.wrap (0 - a1.2) > a1.2 then Go.IntKind.i64.wrap (0 - a1.2) else a1.2 then
 Go.IntKind.i64.wrap (0 - a1.1)
 else
 if a1.1 > if Go.IntKind.i64.wrap (0 - a1.2) > a1.2 then Go.IntKind.i64.wrap (0 - a1.2) else a1.2 then a1.1
 else if Go.IntKind.i64.wrap (0 - a1.2) > a1.2 then Go.IntKind.i64.wrap (0 - a1.2) else a1.2) -
 1)) >
 a0.1 then
 Go.IntKind.i64.wrap
 (0 -
 Go.IntKind.i64.wrap
 ((if
 Go.IntKind.i64.wrap (0 - a1.1) >
 if a1.1 > if Go.IntKind.i64.wrap (0 - a1.2) > a1.2 then Go.IntKind.i64.wrap (0 - a1.2) else a1.2 then a1.1
 else if Go.IntKind.i64.wrap (0 - a1.2) > a1.2 then Go.IntKind.i64.wrap (0 - a1.2) else a1.2 then
 Go.IntKind.i64.wrap (0 - a1.1)
 else
 if a1.1 > if Go.IntKind.i64.wrap (0 - a1.2) > a1.2 then Go.IntKind.i64.wrap (0 - a1.2) else a1.2 then a1.1
 else if Go.IntKind.i64.wrap (0 - a1.2) > a1.2 then Go.IntKind.i64.wrap (0 - a1.2) else a1.2) -
 1))
 else a0.1,
 0)
 else
 bif decide (a0.2 > 0) then
 some
 (0,
 if
 Go.IntKind.i64.wrap
 ((if
 Go.IntKind.i64.wrap (0 - a1.1) >
 if a1.1 > if Go.IntKind.i64.wrap (0 - a1.2) > a1.2 then Go.IntKind.i64.wrap (0 - a1.2) else a1.2 then a1.1
 else if Go.IntKind.i64.wrap (0 - a1.2) > a1.2 then Go.IntKind.i64.wrap (0 - a1.2) else a1.2 then
 Go.IntKind.i64.wrap (0 - a1.1)
 else
 if a1.1 > if Go.IntKind.i64.wrap (0 - a1.2) > a1.2 then Go.IntKind.i64.wrap (0 - a1.2) else a1.2 then a1.1
 else if Go.IntKind.i64.wrap (0 - a1.2) > a1.2 then Go.IntKind.i64.wrap (0 - a1.2) else a1.2) -
 1) <
 a0.2 then
 Go.IntKind.i64.wrap
 ((if
 Go.IntKind.i64.wrap (0 - a1.1) >
 if a1.1 > if Go.IntKind.i64.wrap (0 - a1.2) > a1.2 then Go.IntKind.i64.wrap (0 - a1.2) else a1.2 then a1.1
 else if Go.IntKind.i64.wrap (0 - a1.2) > a1.2 then Go.IntKind.i64.wrap (0 - a1.2) else a1.2 then
 Go.IntKind.i64.wrap (0 - a1.1)
 else
 if a1.1 > if Go.IntKind.i64.wrap (0 - a1.2) > a1.2 then Go.IntKind.i64.wrap (0 - a1.2) else a1.2 then a1.1
 else if Go.IntKind.i64.wrap (0 - a1.2) > a1.2 then Go.IntKind.i64.wrap (0 - a1.2) else a1.2) -
 1)
 else a0.2)
 else some (0, 0)
theorem raw_itv_rests (a0 : I) (a1 : I) : evGX cx_itv_rests keeps 8 151 ash_itv_rests (.dat tI) ((a0, a1, ()) : (I × (I × Unit))) = g_itv_rests a0 a1 := by kernel_rfl
noncomputable def G_itv_rests (x : (I × (I × Unit))) : Option I := g_itv_rests x.1 x.2.1
noncomputable def con_itv_rests : List AV → Prog AV := conP true ash_itv_rests (.dat tI) G_itv_rests
theorem snd_itv_rests : SoundA Try.prog 151 con_itv_rests := conP_sound (cal_itv_rests 151) true (by rfl) (by rfl) (fun x r e => (evGX_eq _ _ _ _ _ _ _).trans ((raw_itv_rests x.1 x.2.1).trans e)) (.inl rfl)
end Go.Proofs.Ytbdcblpjemmipaa.Ex

namespace Go.Proofs.Ytbdcblpjemmipaa.Ex
open Go.Proofs Go.Proofs.Ytbdcblpjemmipaa
set_option maxRecDepth 100000
set_option maxHeartbeats 2000000
set_option linter.unusedVariables false
set_option linter.unusedSimpArgs false
def ash_itv_Do : List Sh := [.dat (.int .i64), .dat tI, .dat tI]
noncomputable def sp_itv_Do : Nat → Option (List AV → Prog AV)
  | 92 => some (con_itv_Empty)
  | 89 => some (con_itv_None)
  | 149 => some (con_itv_quotients)
  | 150 => some (con_itv_Has)
  | 151 => some (con_itv_rests)
  | 102 => some (con_itv_All)
  | 132 => some (con_itv_Meet)
  | 61 => some (con_itv_Leq)
  | _ => none
theorem hsp_itv_Do : ∀ g p, sp_itv_Do g = some p → SoundA Try.prog g p := by
  intro g p h
  unfold sp_itv_Do at h
  split at h
  · cases h; exact snd_itv_Empty
  · cases h; exact snd_itv_None
  · cases h; exact snd_itv_quotients
  · cases h; exact snd_itv_Has
  · cases h; exact snd_itv_rests
  · cases h; exact snd_itv_All
  · cases h; exact snd_itv_Meet
  · cases h; exact snd_itv_Leq
  · cases h
noncomputable def cx_itv_Do : Ctx := { tab := tab, spec := sp_itv_Do, inl := inl, lps := fun _ _ => none, fuel := 40 }
theorem in_itv_Do : InlOk Try.prog cx_itv_Do := ⟨inl_ok, fun _ _ _ _ _ _ _ _ h => nomatch h⟩
theorem cal_itv_Do (g : Nat) : SoundA Try.prog g (evF cx_itv_Do keeps 8 g) := evF_sound (tabOk_of tab_ok) (cmpsOk_of tab_ok cmps_ok) mixed in_itv_Do hsp_itv_Do keeps 8 g
noncomputable def g_itv_Do (a0 : Int) (a1 : I) (a2 : I) : Option (I × (Bool × (Bool × Unit))) :=
  bif decide (a1.1 > a1.2) then some ((1, 0), false, false, PUnit.unit)
 else
 bif decide (a2.1 > a2.2) then some ((1, 0), false, false, PUnit.unit)
 else
 bif a0 == 1 then
 optC (G_itv_Meet ((Go.IntKind.i64.wrap (a1.1 + a2.1), Go.IntKind.i64.wrap (a1.2 + a2.2)), (-2147483648, 2147483647), ())) none fun d4 ↦
 optC (G_itv_Leq ((Go.IntKind.i64.wrap (a1.1 + a2.1), Go.IntKind.i64.wrap (a1.2 + a2.2)), (-2147483648, 2147483647), ())) none fun d5 ↦
 some ((d4.1, d4.2), !d5, false, PUnit.unit)
 else
 bif a0 == 2 then
 optC (G_itv_Meet ((Go.IntKind.i64.wrap (a1.1 - a2.2), Go.IntKind.i64.wrap (a1.2 - a2.1)), (-2147483648, 2147483647), ())) none fun d4 ↦
 optC (G_itv_Leq ((Go.IntKind.i64.wrap (a1.1 - a2.2), Go.IntKind.i64.wrap (a1.2 - a2.1)), (-2147483648, 2147483647), ())) none fun d5 ↦
 some ((d4.1, d4.2), !d5, false, PUnit.unit)
 else
 bif a0 == 3 then
 optC
 (G_itv_Meet
 ((if
 Go.IntKind.i64.wrap (a1.2 * a2.2) <
 if
 Go.IntKind.i64.wrap (a1.2 * a2.1) <
 if Go.IntKind.i64.wrap (a1.1 * a2.2) < Go.IntKind.i64.wrap (a1.1 * a2.1) then Go.IntKind.i64.wrap (a1.1 * a2.2)
 else Go.IntKind.i64.wrap (a1.1 * a2.1) then
 Go.IntKind.i64.wrap (a1.2 * a2.1)
 else if Go.IntKind.i64.wrap (a1.1 * a2.2) < Go.IntKind.i64.wrap (a1.1 * a2.1) then Go.IntKind.i64.wrap (a1.1 * a2.2) else Go.IntKind.i64.wrap (a1.1 * a2.1) then
 Go.IntKind.i64.wrap (a1.2 * a2.2)
 else
 if
 Go.IntKind.i64.wrap (a1.2 * a2.1) <
 if Go.IntKind.i64.wrap (a1.1 * a2.2) < Go.IntKind.i64.wrap (a1.1 * a2.1) then Go.IntKind.i64.wrap (a1.1 * a2.2) else Go.IntKind.i64.wrap (a1.1 * a2.1) then
 Go.IntKind.i64.wrap (a1.2 * a2.1)
 else if Go.IntKind.i64.wrap (a1.1 * a2.2) < Go.IntKind.i64.wrap (a1.1 * a2.1) then Go.IntKind.i64.wrap (a1.1 * a2.2) else Go.IntKind.i64.wrap (a1.1 * a2.1),
 if
 Go.IntKind.i64.wrap (a1.2 * a2.2) >
 if
 Go.IntKind.i64.wrap (a1.2 * a2.1) >
 if Go.IntKind.i64.wrap (a1.1 * a2.2) > Go.IntKind.i64.wrap (a1.1 * a2.1) then Go.IntKind.i64.wrap (a1.1 * a2.2)
 else Go.IntKind.i64.wrap (a1.1 * a2.1) then
 Go.IntKind.i64.wrap (a1.2 * a2.1)
 else if Go.IntKind.i64.wrap (a1.1 * a2.2) > Go.IntKind.i64.wrap (a1.1 * a2.1) then Go.IntKind.i64.wrap (a1.1 * a2.2) else Go.IntKind.i64.wrap (a1.1 * a2.1) then
 Go.IntKind.i64.wrap (a1.2 * a2.2)
 else
 if
 Go.IntKind.i64.wrap (a1.2 * a2.1) >
 if Go.IntKind.i64.wrap (a1.1 * a2.2) > Go.IntKind.i64.wrap (a1.1 * a2.1) then Go.IntKind.i64.wrap (a1.1 * a2.2) else Go.IntKind.i64.wrap (a1.1 * a2.1) then
 Go.IntKind.i64.wrap (a1.2 * a2.1)
 else if Go.IntKind.i64.wrap (a1.1 * a2.2) > Go.IntKind.i64.wrap (a1.1 * a2.1) then Go.IntKind.i64.wrap (a1.1 * a2.2) else Go.IntKind.i64.wrap (a1.1 * a2.1)),
 (-2147483648, 2147483647), ()))
 none fun d4 ↦
 optC
 (G_itv_Leq
 ((if
 Go.IntKind.i64.wrap (a1.2 * a2.2) <
 if
 Go.IntKind.i64.wrap (a1.2 * a2.1) <
 if Go.IntKind.i64.wrap (a1.1 * a2.2) < Go.IntKind.i64.wrap (a1.1 * a2.1) then Go.IntKind.i64.wrap (a1.1 * a2.2)
 else Go.IntKind.i64.wrap (a1.1 * a2.1) then
 Go.IntKind.i64.wrap (a1.2 * a2.1)
 else
 if Go.IntKind.i64.wrap (a1.1 * a2.2) < Go.IntKind.i64.wrap (a1.1 * a2.1) then Go.IntKind.i64.wrap (a1.1 * a2.2) else Go.IntKind.i64.wrap (a1.1 * a2.1) then
 Go.IntKind.i64.wrap (a1.2 * a2.2)
 else
 if
 Go.IntKind.i64.wrap (a1.2 * a2.1) <
 if Go.IntKind.i64.wrap (a1.1 * a2.2) < Go.IntKind.i64.wrap (a1.1 * a2.1) then Go.IntKind.i64.wrap (a1.1 * a2.2) else Go.IntKind.i64.wrap (a1.1 * a2.1) then
 Go.IntKind.i64.wrap (a1.2 * a2.1)
 else if Go.IntKind.i64.wrap (a1.1 * a2.2) < Go.IntKind.i64.wrap (a1.1 * a2.1) then Go.IntKind.i64.wrap (a1.1 * a2.2) else Go.IntKind.i64.wrap (a1.1 * a2.1),
 if
 Go.IntKind.i64.wrap (a1.2 * a2.2) >
 if
 Go.IntKind.i64.wrap (a1.2 * a2.1) >
 if Go.IntKind.i64.wrap (a1.1 * a2.2) > Go.IntKind.i64.wrap (a1.1 * a2.1) then Go.IntKind.i64.wrap (a1.1 * a2.2)
 else Go.IntKind.i64.wrap (a1.1 * a2.1) then
 Go.IntKind.i64.wrap (a1.2 * a2.1)
 else
 if Go.IntKind.i64.wrap (a1.1 * a2.2) > Go.IntKind.i64.wrap (a1.1 * a2.1) then Go.IntKind.i64.wrap (a1.1 * a2.2) else Go.IntKind.i64.wrap (a1.1 * a2.1) then
 Go.IntKind.i64.wrap (a1.2 * a2.2)
 else
 if
 Go.IntKind.i64.wrap (a1.2 * a2.1) >
 if Go.IntKind.i64.wrap (a1.1 * a2.2) > Go.IntKind.i64.wrap (a1.1 * a2.1) then Go.IntKind.i64.wrap (a1.1 * a2.2) else Go.IntKind.i64.wrap (a1.1 * a2.1) then
 Go.IntKind.i64.wrap (a1.2 * a2.1)
 else if Go.IntKind.i64.wrap (a1.1 * a2.2) > Go.IntKind.i64.wrap (a1.1 * a2.1) then Go.IntKind.i64.wrap (a1.1 * a2.2) else Go.IntKind.i64.wrap (a1.1 * a2.1)),
 (-2147483648, 2147483647), ()))
 none fun d5 ↦ some ((d4.1, d4.2), !d5, false, PUnit.unit)
 else
 bif a0 == 4 then
 optC (G_itv_quotients (a1, a2, ())) none fun d4 ↦
 optC (G_itv_Has (a2, 0, ())) none fun d5 ↦ some ((d4.1.1, d4.1.2), d4.2.1, d5, PUnit.unit)
 else
 bif a0 == 5 then
 optC (G_itv_rests (a1, a2, ())) none fun d4 ↦ optC (G_itv_Has (a2, 0, ())) none fun d5 ↦ some ((d4.1, d4.2), false, d5, PUnit.unit)
 else some ((1, 0), !true, false, PUnit.unit)
theorem raw_itv_Do (a0 : Int) (a1 : I) (a2 : I) : evGX cx_itv_Do keeps 8 129 ash_itv_Do (.tup [.dat tI, .dat .bool, .dat .bool]) ((a0, a1, a2, ()) : (Int × (I × (I × Unit)))) = g_itv_Do a0 a1 a2 := by kernel_rfl
noncomputable def G_itv_Do (x : (Int × (I × (I × Unit)))) : Option (I × (Bool × (Bool × Unit))) := g_itv_Do x.1 x.2.1 x.2.2.1
noncomputable def con_itv_Do : List AV → Prog AV := conP true ash_itv_Do (.tup [.dat tI, .dat .bool, .dat .bool]) G_itv_Do
theorem snd_itv_Do : SoundA Try.prog 129 con_itv_Do := conP_sound (cal_itv_Do 129) true (by rfl) (by rfl) (fun x r e => (evGX_eq _ _ _ _ _ _ _).trans ((raw_itv_Do x.1 x.2.1 x.2.2.1).trans e)) (.inl rfl)
end Go.Proofs.Ytbdcblpjemmipaa.Ex

namespace Go.Proofs.Ytbdcblpjemmipaa.Ex
open Go.Proofs Go.Proofs.Ytbdcblpjemmipaa
set_option maxRecDepth 100000
set_option maxHeartbeats 2000000
set_option linter.unusedVariables false
set_option linter.unusedSimpArgs false
end Go.Proofs.Ytbdcblpjemmipaa.Ex

namespace Go.Proofs.Ytbdcblpjemmipaa.Ex
open Go.Proofs Go.Proofs.Ytbdcblpjemmipaa
set_option maxRecDepth 100000
set_option maxHeartbeats 2000000
set_option linter.unusedVariables false
set_option linter.unusedSimpArgs false
end Go.Proofs.Ytbdcblpjemmipaa.Ex

namespace Go.Proofs.Ytbdcblpjemmipaa.Ex
open Go.Proofs Go.Proofs.Ytbdcblpjemmipaa
set_option maxRecDepth 100000
set_option maxHeartbeats 2000000
set_option linter.unusedVariables false
set_option linter.unusedSimpArgs false
def ash_itv_without : List Sh := [.dat tI, .dat tI]
noncomputable def sp_itv_without : Nat → Option (List AV → Prog AV)
  | _ => none
theorem hsp_itv_without : ∀ g p, sp_itv_without g = some p → SoundA Try.prog g p := by
  intro g p h
  unfold sp_itv_without at h
  split at h
  · cases h
noncomputable def cx_itv_without : Ctx := { tab := tab, spec := sp_itv_without, inl := inl, lps := fun _ _ => none, fuel := 40 }
theorem in_itv_without : InlOk Try.prog cx_itv_without := ⟨inl_ok, fun _ _ _ _ _ _ _ _ h => nomatch h⟩
theorem cal_itv_without (g : Nat) : SoundA Try.prog g (evF cx_itv_without keeps 8 g) := evF_sound (tabOk_of tab_ok) (cmpsOk_of tab_ok cmps_ok) mixed in_itv_without hsp_itv_without keeps 8 g
noncomputable def g_itv_without (a0 : I) (a1 : I) : Option I :=
  bif a1.1 != a1.2 then some (a0.1, a0.2)
 else
 bif a0.1 == a1.1 then some (Go.IntKind.i64.wrap (a0.1 + 1), a0.2)
 else bif a0.2 == a1.1 then some (a0.1, Go.IntKind.i64.wrap (a0.2 - 1)) else some (a0.1, a0.2)
theorem raw_itv_without (a0 : I) (a1 : I) : evGX cx_itv_without keeps 8 152 ash_itv_without (.dat tI) ((a0, a1, ()) : (I × (I × Unit))) = g_itv_without a0 a1 := by kernel_rfl
noncomputable def G_itv_without (x : (I × (I × Unit))) : Option I := g_itv_without x.1 x.2.1
noncomputable def con_itv_without : List AV → Prog AV := conP true ash_itv_without (.dat tI) G_itv_without
theorem snd_itv_without : SoundA Try.prog 152 con_itv_without := conP_sound (cal_itv_without 152) true (by rfl) (by rfl) (fun x r e => (evGX_eq _ _ _ _ _ _ _).trans ((raw_itv_without x.1 x.2.1).trans e)) (.inl rfl)
end Go.Proofs.Ytbdcblpjemmipaa.Ex

namespace Go.Proofs.Ytbdcblpjemmipaa.Ex
open Go.Proofs Go.Proofs.Ytbdcblpjemmipaa
set_option maxRecDepth 100000
set_option maxHeartbeats 2000000
set_option linter.unusedVariables false
set_option linter.unusedSimpArgs false
def ash_itv_Refine : List Sh := [.dat (.int .i64), .dat tI, .dat tI]
noncomputable def sp_itv_Refine : Nat → Option (List AV → Prog AV)
  | 132 => some (con_itv_Meet)
  | 152 => some (con_itv_without)
  | 89 => some (con_itv_None)
  | 92 => some (con_itv_Empty)
  | _ => none
theorem hsp_itv_Refine : ∀ g p, sp_itv_Refine g = some p → SoundA Try.prog g p := by
  intro g p h
  unfold sp_itv_Refine at h
  split at h
  · cases h; exact snd_itv_Meet
  · cases h; exact snd_itv_without
  · cases h; exact snd_itv_None
  · cases h; exact snd_itv_Empty
  · cases h
noncomputable def cx_itv_Refine : Ctx := { tab := tab, spec := sp_itv_Refine, inl := inl, lps := fun _ _ => none, fuel := 40 }
theorem in_itv_Refine : InlOk Try.prog cx_itv_Refine := ⟨inl_ok, fun _ _ _ _ _ _ _ _ h => nomatch h⟩
theorem cal_itv_Refine (g : Nat) : SoundA Try.prog g (evF cx_itv_Refine keeps 8 g) := evF_sound (tabOk_of tab_ok) (cmpsOk_of tab_ok cmps_ok) mixed in_itv_Refine hsp_itv_Refine keeps 8 g
noncomputable def g_itv_Refine (a0 : Int) (a1 : I) (a2 : I) : Option (I × (I × Unit)) :=
  bif a0 == 1 then
 bif decide (a1.1 > a1.2) then some ((1, 0), (1, 0), PUnit.unit)
 else
 bif decide (a2.1 > a2.2) then some ((1, 0), (1, 0), PUnit.unit)
 else
 bif decide (a1.1 > if Go.IntKind.i64.wrap (a2.2 - 1) < a1.2 then Go.IntKind.i64.wrap (a2.2 - 1) else a1.2) then some ((1, 0), (1, 0), PUnit.unit)
 else
 bif decide ((if Go.IntKind.i64.wrap (a1.1 + 1) > a2.1 then Go.IntKind.i64.wrap (a1.1 + 1) else a2.1) > a2.2) then some ((1, 0), (1, 0), PUnit.unit)
 else
 some
 ((a1.1, if Go.IntKind.i64.wrap (a2.2 - 1) < a1.2 then Go.IntKind.i64.wrap (a2.2 - 1) else a1.2),
 (if Go.IntKind.i64.wrap (a1.1 + 1) > a2.1 then Go.IntKind.i64.wrap (a1.1 + 1) else a2.1, a2.2), PUnit.unit)
 else
 bif a0 == 2 then
 bif decide (a1.1 > a1.2) then some ((1, 0), (1, 0), PUnit.unit)
 else
 bif decide (a2.1 > a2.2) then some ((1, 0), (1, 0), PUnit.unit)
 else
 bif decide (a1.1 > if a2.2 < a1.2 then a2.2 else a1.2) then some ((1, 0), (1, 0), PUnit.unit)
 else
 bif decide ((if a1.1 > a2.1 then a1.1 else a2.1) > a2.2) then some ((1, 0), (1, 0), PUnit.unit)
 else some ((a1.1, if a2.2 < a1.2 then a2.2 else a1.2), (if a1.1 > a2.1 then a1.1 else a2.1, a2.2), PUnit.unit)
 else
 bif a0 == 5 then
 bif decide (a1.1 > a1.2) then some ((1, 0), (1, 0), PUnit.unit)
 else
 bif decide (a2.1 > a2.2) then some ((1, 0), (1, 0), PUnit.unit)
 else
 bif decide ((if a2.1 > a1.1 then a2.1 else a1.1) > a1.2) then some ((1, 0), (1, 0), PUnit.unit)
 else
 bif decide (a2.1 > if a1.2 < a2.2 then a1.2 else a2.2) then some ((1, 0), (1, 0), PUnit.unit)
 else some ((if a2.1 > a1.1 then a2.1 else a1.1, a1.2), (a2.1, if a1.2 < a2.2 then a1.2 else a2.2), PUnit.unit)
 else
 bif a0 == 6 then
 bif decide (a1.1 > a1.2) then some ((1, 0), (1, 0), PUnit.unit)
 else
 bif decide (a2.1 > a2.2) then some ((1, 0), (1, 0), PUnit.unit)
 else
 bif decide ((if Go.IntKind.i64.wrap (a2.1 + 1) > a1.1 then Go.IntKind.i64.wrap (a2.1 + 1) else a1.1) > a1.2) then some ((1, 0), (1, 0), PUnit.unit)
 else
 bif decide (a2.1 > if Go.IntKind.i64.wrap (a1.2 - 1) < a2.2 then Go.IntKind.i64.wrap (a1.2 - 1) else a2.2) then some ((1, 0), (1, 0), PUnit.unit)
 else
 some
 ((if Go.IntKind.i64.wrap (a2.1 + 1) > a1.1 then Go.IntKind.i64.wrap (a2.1 + 1) else a1.1, a1.2),
 (a2.1, if Go.IntKind.i64.wrap (a1.2 - 1) < a2.2 then Go.IntKind.i64.wrap (a1.2 - 1) else a2.2), PUnit.unit)
 else
 bif a0 == 3 then
 optC (G_itv_Meet (a1, a2, ())) none fun d4 ↦
 bif decide (a1.1 > a1.2) then some ((1, 0), (1, 0), PUnit.unit)
 else
 bif decide (a2.1 > a2.2) then some ((1, 0), (1, 0), PUnit.unit)
 else
 bif decide (d4.1 > d4.2) then some ((1, 0), (1, 0), PUnit.unit)
 else bif decide (d4.1 > d4.2) then some ((1, 0), (1, 0), PUnit.unit) else some ((d4.1, d4.2), (d4.1, d4.2), PUnit.unit)
 else
 bif a0 == 4 then
 optC (G_itv_without (a1, a2, ())) none fun d4 ↦
 optC (G_itv_without (a2, a1, ())) none fun d5 ↦
 bif decide (a1.1 > a1.2) then some ((1, 0), (1, 0), PUnit.unit)
 else
 bif decide (a2.1 > a2.2) then some ((1, 0), (1, 0), PUnit.unit)
 else
 bif decide (d4.1 > d4.2) then some ((1, 0), (1, 0), PUnit.unit)
 else bif decide (d5.1 > d5.2) then some ((1, 0), (1, 0), PUnit.unit) else some ((d4.1, d4.2), (d5.1, d5.2), PUnit.unit)
 else some ((1, 0), (1, 0), PUnit.unit)
theorem raw_itv_Refine (a0 : Int) (a1 : I) (a2 : I) : evGX cx_itv_Refine keeps 8 136 ash_itv_Refine (.tup [.dat tI, .dat tI]) ((a0, a1, a2, ()) : (Int × (I × (I × Unit)))) = g_itv_Refine a0 a1 a2 := by kernel_rfl
noncomputable def G_itv_Refine (x : (Int × (I × (I × Unit)))) : Option (I × (I × Unit)) := g_itv_Refine x.1 x.2.1 x.2.2.1
noncomputable def con_itv_Refine : List AV → Prog AV := conP true ash_itv_Refine (.tup [.dat tI, .dat tI]) G_itv_Refine
theorem snd_itv_Refine : SoundA Try.prog 136 con_itv_Refine := conP_sound (cal_itv_Refine 136) true (by rfl) (by rfl) (fun x r e => (evGX_eq _ _ _ _ _ _ _).trans ((raw_itv_Refine x.1 x.2.1 x.2.2.1).trans e)) (.inl rfl)
end Go.Proofs.Ytbdcblpjemmipaa.Ex

namespace Go.Proofs.Ytbdcblpjemmipaa.Ex
open Go.Proofs Go.Proofs.Ytbdcblpjemmipaa
set_option maxRecDepth 100000
set_option maxHeartbeats 2000000
set_option linter.unusedVariables false
set_option linter.unusedSimpArgs false
noncomputable def g_ref2_span (a0 : Int) (a1 : Int) : Option I :=
  bif decide (a0 > a1) then some (1, 0) else some (a0, a1)
noncomputable def G_ref2_span (x : (Int × (Int × Unit))) : Option I := g_ref2_span x.1 x.2.1
end Go.Proofs.Ytbdcblpjemmipaa.Ex

namespace Go.Proofs.Ytbdcblpjemmipaa.Ex
open Go.Proofs Go.Proofs.Ytbdcblpjemmipaa
set_option maxRecDepth 100000
set_option maxHeartbeats 2000000
set_option linter.unusedVariables false
set_option linter.unusedSimpArgs false
end Go.Proofs.Ytbdcblpjemmipaa.Ex

namespace Go.Proofs.Ytbdcblpjemmipaa.Ex
open Go.Proofs Go.Proofs.Ytbdcblpjemmipaa
set_option maxRecDepth 100000
set_option maxHeartbeats 2000000
set_option linter.unusedVariables false
set_option linter.unusedSimpArgs false
end Go.Proofs.Ytbdcblpjemmipaa.Ex

namespace Go.Proofs.Ytbdcblpjemmipaa.Ex
open Go.Proofs Go.Proofs.Ytbdcblpjemmipaa
set_option maxRecDepth 100000
set_option maxHeartbeats 2000000
set_option linter.unusedVariables false
set_option linter.unusedSimpArgs false
noncomputable def g_ref2_Meet (a0 : I) (a1 : I) : Option I :=
  optC (G_ref2_span (if a1.1 > a0.1 then a1.1 else a0.1, if a1.2 < a0.2 then a1.2 else a0.2, ())) none fun d3 ↦ some (d3.1, d3.2)
end Go.Proofs.Ytbdcblpjemmipaa.Ex

namespace Go.Proofs.Ytbdcblpjemmipaa.Ex
open Go.Proofs Go.Proofs.Ytbdcblpjemmipaa
set_option maxRecDepth 100000
set_option maxHeartbeats 2000000
set_option linter.unusedVariables false
set_option linter.unusedSimpArgs false
end Go.Proofs.Ytbdcblpjemmipaa.Ex

namespace Go.Proofs.Ytbdcblpjemmipaa.Ex
open Go.Proofs Go.Proofs.Ytbdcblpjemmipaa
set_option maxRecDepth 100000
set_option maxHeartbeats 2000000
set_option linter.unusedVariables false
set_option linter.unusedSimpArgs false
end Go.Proofs.Ytbdcblpjemmipaa.Ex

namespace Go.Proofs.Ytbdcblpjemmipaa.Ex
open Go.Proofs Go.Proofs.Ytbdcblpjemmipaa
set_option maxRecDepth 100000
set_option maxHeartbeats 2000000
set_option linter.unusedVariables false
set_option linter.unusedSimpArgs false
end Go.Proofs.Ytbdcblpjemmipaa.Ex

namespace Go.Proofs.Ytbdcblpjemmipaa.Ex
open Go.Proofs Go.Proofs.Ytbdcblpjemmipaa
set_option maxRecDepth 100000
set_option maxHeartbeats 2000000
set_option linter.unusedVariables false
set_option linter.unusedSimpArgs false
end Go.Proofs.Ytbdcblpjemmipaa.Ex

namespace Go.Proofs.Ytbdcblpjemmipaa.Ex
open Go.Proofs Go.Proofs.Ytbdcblpjemmipaa
set_option maxRecDepth 100000
set_option maxHeartbeats 2000000
set_option linter.unusedVariables false
set_option linter.unusedSimpArgs false
def ash_ref2_Leq : List Sh := [.dat tI, .dat tI]
noncomputable def sp_ref2_Leq : Nat → Option (List AV → Prog AV)
  | 49 => some (con_ref2_Empty)
  | _ => none
theorem hsp_ref2_Leq : ∀ g p, sp_ref2_Leq g = some p → SoundA Try.prog g p := by
  intro g p h
  unfold sp_ref2_Leq at h
  split at h
  · cases h; exact snd_ref2_Empty
  · cases h
noncomputable def cx_ref2_Leq : Ctx := { tab := tab, spec := sp_ref2_Leq, inl := inl, lps := fun _ _ => none, fuel := 40 }
theorem in_ref2_Leq : InlOk Try.prog cx_ref2_Leq := ⟨inl_ok, fun _ _ _ _ _ _ _ _ h => nomatch h⟩
theorem cal_ref2_Leq (g : Nat) : SoundA Try.prog g (evF cx_ref2_Leq keeps 8 g) := evF_sound (tabOk_of tab_ok) (cmpsOk_of tab_ok cmps_ok) mixed in_ref2_Leq hsp_ref2_Leq keeps 8 g
noncomputable def g_ref2_Leq (a0 : I) (a1 : I) : Option Bool :=
  bif decide (a0.1 > a0.2) then some true else bif decide (a0.1 ≥ a1.1) then some (decide (a0.2 ≤ a1.2)) else some false
theorem raw_ref2_Leq (a0 : I) (a1 : I) : evGX cx_ref2_Leq keeps 8 16 ash_ref2_Leq (.dat .bool) ((a0, a1, ()) : (I × (I × Unit))) = g_ref2_Leq a0 a1 := by kernel_rfl
noncomputable def G_ref2_Leq (x : (I × (I × Unit))) : Option Bool := g_ref2_Leq x.1 x.2.1
noncomputable def con_ref2_Leq : List AV → Prog AV := conP true ash_ref2_Leq (.dat .bool) G_ref2_Leq
theorem snd_ref2_Leq : SoundA Try.prog 16 con_ref2_Leq := conP_sound (cal_ref2_Leq 16) true (by rfl) (by rfl) (fun x r e => (evGX_eq _ _ _ _ _ _ _).trans ((raw_ref2_Leq x.1 x.2.1).trans e)) (.inl rfl)
end Go.Proofs.Ytbdcblpjemmipaa.Ex

namespace Go.Proofs.Ytbdcblpjemmipaa.Ex
set_option maxRecDepth 100000
set_option linter.unusedVariables false
set_option linter.unusedSimpArgs false
theorem rangeO_inl {σ α Y : Type} {f : Nat → σ → α → Option (σ ⊕ Y)} {fin : σ → Option Y} {i : Nat} {d : α} {r : List α} {s s' : σ} (h : f i s d = some (.inl s')) : rangeO f fin i (d :: r) s = rangeO f fin (i + 1) r s' := by
  rw [rangeO, h]
theorem cd_true {α : Type} {p : Prop} [Decidable p] (h : p) (a b : α) : (bif decide p then a else b) = a := by rw [decide_eq_true h]; rfl
theorem n_itv_Leq (x y : I) : g_itv_Leq x y = some (leqB x y) := by
  unfold g_itv_Leq leqB empB
  cases decide (x.1 > x.2)
  · cases decide (x.1 ≥ y.1) <;> rfl
  · rfl
theorem n_ref2_Leq (x y : I) : g_ref2_Leq x y = some (leqB x y) := n_itv_Leq x y
theorem n_itv_Meet (x y : I) : g_itv_Meet x y = some (iMeet x y) := by
  unfold g_itv_Meet iMeet empB
  simp only [cond_eq_ite, mn_def, mx_def, nn]
  (repeat' split) <;> simp_all
theorem n_ref2_span (a b : Int) : g_ref2_span a b = some (iSpan a b) := by
  unfold g_ref2_span iSpan
  simp only [cond_eq_ite, decide_eq_true_eq, nn]
  split <;> rfl
theorem n_ref2_Meet (x y : I) : g_ref2_Meet x y = some (mSpan x y) := by
  unfold g_ref2_Meet G_ref2_span mSpan
  simp only [n_ref2_span, optC_some, mn_def, mx_def]
theorem n_ref2_Join (x y : I) : g_ref2_Join x y = some (rJoin x y) := by
  unfold g_ref2_Join rJoin empB
  simp only [cond_eq_ite, mn_def, mx_def]
  (repeat' split) <;> simp_all
theorem joins_go (b0 b01 : Int) (L : List I) : ∀ (l : List I) (i : Nat) (a : I), rangeO (fun i s d => bd_itv_Join_55_0_0 b0 b01 L i s.1 s.2 d) (fun s => fn_itv_Join_55_0_0 b0 b01 L s.1 s.2) i l a =
    some (b0, b01, (l.foldl (fun a d => if empB d then a else if empB a then d else (mn a.1 d.1, mx a.2 d.2)) a).1, (l.foldl (fun a d => if empB d then a else if empB a then d else (mn a.1 d.1, mx a.2 d.2)) a).2)
  | [], i, a => rfl
  | d :: r, i, a => by
    have h : bd_itv_Join_55_0_0 b0 b01 L i a.1 a.2 d = some (.inl (if empB d then a else if empB a then d else (mn a.1 d.1, mx a.2 d.2))) := by
      unfold bd_itv_Join_55_0_0 empB
      simp only [cond_eq_ite, mn_def, mx_def]
      (repeat' split) <;> simp_all
    rw [rangeO]
    simp only [h]
    exact joins_go b0 b01 L r (i + 1) _
theorem n_itv_Join (l : List I) (hl : l.length < 9223372036854775807) : g_itv_Join l = some (l.foldl (fun a d => if empB d then a else if empB a then d else (mn a.1 d.1, mx a.2 d.2)) nn) := by
  unfold g_itv_Join
  have := rg_itv_Join_55_0_0 0 0 l nn hl
  have e : L_itv_Join_55_0_0 (l, (l.length : Int), 0, 0, 0, 1, 0) = _ := this
  rw [e]
  unfold rv_itv_Join_55_0_0
  rw [joins_go 0 0 l l 0 nn]
  rfl
theorem n_itv_Join2 (x y : I) : g_itv_Join [x, y] = some (iJoin x y) := by
  rw [n_itv_Join [x, y] (by simp)]
  simp only [List.foldl_cons, List.foldl_nil]
  have hn : empB nn = true := rfl
  unfold iJoin
  cases hx : empB x <;> cases hy : empB y <;> simp [hn, hx, hy]
theorem n_num_Fits1 (n : Int) : g_num_Fits [n] = some (fitB n) := by
  unfold g_num_Fits
  have e : L_num_Fits_98_0_0 ([n], 1, 0) = _ := rg_num_Fits_98_0_0 [n] () (by simp)
  have e2 : (([n].length : Nat) : Int) = 1 := rfl
  rw [e2, e]
  unfold rv_num_Fits_98_0_0 fitB
  simp only [rangeO, bd_num_Fits_98_0_0, fn_num_Fits_98_0_0]
  by_cases h1 : n < -2147483648
  · rw [decide_eq_true h1, decide_eq_false (show ¬ n ≥ -2147483648 by omega)]; rfl
  · by_cases h2 : n > 2147483647
    · rw [decide_eq_false h1, decide_eq_true h2, decide_eq_true (show n ≥ -2147483648 by omega), decide_eq_false (show ¬ n ≤ 2147483647 by omega)]; rfl
    · rw [decide_eq_false h1, decide_eq_false h2, decide_eq_true (show n ≥ -2147483648 by omega), decide_eq_true (show n ≤ 2147483647 by omega)]; rfl
theorem n_itv_Of1 (n : Int) (h : fitB n = true) : g_itv_Of [n] = some (n, n) := by
  unfold g_itv_Of
  have e : L_itv_Of_101_0_0 ([n], (([n] : List Int).length : Int), 0, 0, 0, 1, 0) = _ := rg_itv_Of_101_0_0 0 0 [n] nn (by simp)
  rw [e]
  unfold rv_itv_Of_101_0_0
  simp only [rangeO, bd_itv_Of_101_0_0, fn_itv_Of_101_0_0, G_num_Fits, G_itv_Join, n_num_Fits1, h, optC_some, cond_true, n_itv_Join2]
  have : iJoin (nn.1, nn.2) (n, n) = (n, n) := join_nl (Int.le_refl n)
  rw [this]
theorem wr2 {a b : Int} (ha : a.natAbs ≤ 2147483648) (hb : b.natAbs ≤ 2147483648) : IntKind.i64.wrap (a + b) = a + b ∧ IntKind.i64.wrap (a - b) = a - b ∧ IntKind.i64.wrap (a * b) = a * b ∧ IntKind.i64.wrap (a.tdiv b) = a.tdiv b :=
  ⟨wr (by omega), wr (by omega), wr (mul_abs ha hb), wr (Nat.le_trans (div_abs ha) (by decide))⟩
theorem n_itv_quotients (x y : I) (hx : isB x = true) (hy : isB y = true) : g_itv_quotients x y = some ((quoV x y).1, (quoV x y).2, ()) := by
  obtain ⟨x1, x2⟩ := isB_abs hx
  obtain ⟨y1, y2⟩ := isB_abs hy
  unfold g_itv_quotients
  have e : L_itv_quotients_149_0_0 (false, (([(1, 2147483647), (-2147483648, -1)] : List I).length : Int), 0, x.1, x.2, y.1, y.2, 0, 0, 1, 0, [(1, 2147483647), (-2147483648, -1)]) = _ := rg_itv_quotients_149_0_0 x.1 x.2 y.1 y.2 0 0 [(1, 2147483647), (-2147483648, -1)] (false, 1, 0) (by simp)
  rw [e]
  unfold rv_itv_quotients_149_0_0
  have one : ∀ (p : I) (i : Nat) (L : List I) (o : Bool) (v : I), (∀ n, p.1 ≤ n → n ≤ p.2 → n ≠ 0) → p.1.natAbs ≤ 2147483648 → p.2.natAbs ≤ 2147483648 → bd_itv_quotients_149_0_0 x.1 x.2 y.1 y.2 0 0 L i o v.1 v.2 p =
      some (.inl (if empB (iMeet y p) then (o, v.1, v.2) else (o || !leqB (div4 x (iMeet y p)) aa, (iJoin v (iMeet (div4 x (iMeet y p)) aa)).1, (iJoin v (iMeet (div4 x (iMeet y p)) aa)).2))) := by
    intro p i L o v hp p1 p2
    unfold bd_itv_quotients_149_0_0
    simp only [G_itv_Meet, n_itv_Meet, optC_some]
    have hm : (iMeet ((y.1, y.2) : I) p) = iMeet y p := rfl
    rw [hm]
    cases he : empB (iMeet y p)
    · have h0 := le_of_emp he
      have hin : p.1 ≤ (iMeet y p).1 ∧ (iMeet y p).2 ≤ p.2 ∧ y.1 ≤ (iMeet y p).1 ∧ (iMeet y p).2 ≤ y.2 := by
        unfold iMeet at he ⊢
        (repeat' split at he) <;> first | (simp_all [empB, nn]; done) | skip
        rename_i k1 k2 k3
        rw [if_neg k1, if_neg k2, if_neg k3]
        unfold mx mn
        refine ⟨?_, ?_, ?_, ?_⟩ <;> simp only <;> split <;> omega
      generalize iMeet y p = m at *
      have m1 : m.1 ≠ 0 := hp _ (by omega) (by omega)
      have m2 : m.2 ≠ 0 := hp _ (by omega) (by omega)
      have a1 : m.1.natAbs ≤ 2147483648 := by omega
      have a2 : m.2.natAbs ≤ 2147483648 := by omega
      have w1 := (wr2 x1 a1).2.2.2
      have w2 := (wr2 x1 a2).2.2.2
      have w3 := (wr2 x2 a1).2.2.2
      have w4 := (wr2 x2 a2).2.2.2
      have h1 : ¬ m.1 > m.2 := by omega
      simp only [decide_eq_false h1, decide_eq_false m1, decide_eq_false m2, Bool.not_false, cond_true, cond_false, w1, w2, w3, w4, mn_def, mx_def, G_itv_Join, G_itv_Leq, n_itv_Join2, n_itv_Leq, optC_some]
      rw [show ((-2147483648, 2147483647) : I) = aa from rfl, show (mn (mn (mn (x.1.tdiv m.1) (x.1.tdiv m.2)) (x.2.tdiv m.1)) (x.2.tdiv m.2), mx (mx (mx (x.1.tdiv m.1) (x.1.tdiv m.2)) (x.2.tdiv m.1)) (x.2.tdiv m.2)) = div4 x m from rfl]
      cases o <;> rfl
    · have h1 : (iMeet y p).1 > (iMeet y p).2 := emp_iff.1 he
      rw [decide_eq_true h1]
      rfl
  have o1 := one pP 0 [pP, pM] false nn (fun n h1 h2 => by unfold pP at h1; simp only at h1; omega) (by decide) (by decide)
  have o2 := fun o v => one pM 1 [pP, pM] o v (fun n h1 h2 => by unfold pM at h2; simp only at h2; omega) (by decide) (by decide)
  have key : rangeO (fun i s d => bd_itv_quotients_149_0_0 x.1 x.2 y.1 y.2 0 0 [(1, 2147483647), (-2147483648, -1)] i s.1 s.2.1 s.2.2 d) (fun s => fn_itv_quotients_149_0_0 x.1 x.2 y.1 y.2 0 0 [(1, 2147483647), (-2147483648, -1)] s.1 s.2.1 s.2.2) 0 [(1, 2147483647), (-2147483648, -1)] (false, 1, 0) = some ((quoV x y).2, 0, 0, (quoV x y).1.1, (quoV x y).1.2) := by
    refine (rangeO_inl o1).trans ?_
    unfold quoV quo1
    cases hP : empB (iMeet y pP)
    · refine (rangeO_inl (o2 (!leqB (div4 x (iMeet y pP)) aa) (iJoin nn (iMeet (div4 x (iMeet y pP)) aa)))).trans ?_
      cases hM : empB (iMeet y pM) <;> rfl
    · refine (rangeO_inl (o2 false nn)).trans ?_
      cases hM : empB (iMeet y pM) <;> rfl
  rw [key]
  rfl
theorem mx4_abs {a b c d : Int} {n : Nat} (ha : a.natAbs ≤ n) (hb : b.natAbs ≤ n) (hc : c.natAbs ≤ n) (hd : d.natAbs ≤ n) : (mx (mx (mx a b) c) d).natAbs ≤ n := by
  unfold mx
  (repeat' split) <;> omega
theorem n_itv_rests (x y : I) (hx : isB x = true) (hy : isB y = true) : g_itv_rests x y = some (remI x y) := by
  obtain ⟨x1, x2⟩ := isB_abs hx
  obtain ⟨y1, y2⟩ := isB_abs hy
  have w1 : IntKind.i64.wrap (0 - y.1) = -y.1 := by rw [wr (by omega)]; omega
  have w2 : IntKind.i64.wrap (0 - y.2) = -y.2 := by rw [wr (by omega)]; omega
  unfold g_itv_rests remI
  simp only [w1, w2, mx_def, mn_def]
  have hM := mx4_abs (n := 2147483648) (a := y.2) (b := -y.2) (c := y.1) (d := -y.1) y2 (by omega) y1 (by omega)
  generalize mx (mx (mx y.2 (-y.2)) y.1) (-y.1) = M at *
  have w3 : IntKind.i64.wrap (M - 1) = M - 1 := wr (by omega)
  have w4 : IntKind.i64.wrap (0 - (M - 1)) = -(M - 1) := by rw [wr (by omega)]; omega
  simp only [w3, w4, mx_def, mn_def, cond_eq_ite, Bool.and_eq_true, beq_iff_eq, decide_eq_true_eq]
  by_cases h1 : y.1 = 0 ∧ y.2 = 0
  · rw [if_pos h1, if_pos h1]; rfl
  · rw [if_neg h1, if_neg h1]
    by_cases h2 : x.1 < 0 <;> by_cases h3 : x.2 > 0 <;> simp [h2, h3]
theorem n_itv_Has (x : I) (n : Int) : g_itv_Has x n = some (hasB x n) := by
  unfold g_itv_Has hasB
  cases decide (n ≥ x.1) <;> rfl
theorem n_itv_Do (op : Int) (x y : I) (hx : isB x = true) (hy : isB y = true) : g_itv_Do op x y = some ((doI op x y).1, (doI op x y).2.1, (doI op x y).2.2, ()) := by
  obtain ⟨x1, x2⟩ := isB_abs hx
  obtain ⟨y1, y2⟩ := isB_abs hy
  have a11 := wr2 x1 y1
  have a12 := wr2 x1 y2
  have a21 := wr2 x2 y1
  have a22 := wr2 x2 y2
  unfold g_itv_Do doI
  simp only [a11.1, a11.2.1, a11.2.2.1, a12.1, a12.2.1, a12.2.2.1, a21.1, a21.2.1, a21.2.2.1, a22.1, a22.2.1, a22.2.2.1, mn_def, mx_def, G_itv_Meet, G_itv_Leq, G_itv_quotients, G_itv_Has, G_itv_rests, n_itv_Meet, n_itv_Leq, n_itv_quotients x y hx hy, n_itv_rests x y hx hy, n_itv_Has, optC_some]
  rw [show ((-2147483648, 2147483647) : I) = aa from rfl]
  by_cases h1 : x.1 > x.2
  · rw [decide_eq_true h1, show empB x = true from emp_iff.2 h1]; rfl
  by_cases h2 : y.1 > y.2
  · rw [decide_eq_false h1, decide_eq_true h2, show empB x = false from by simp [empB, h1], show empB y = true from emp_iff.2 h2]; rfl
  rw [decide_eq_false h1, decide_eq_false h2, show empB x = false from by simp [empB, h1], show empB y = false from by simp [empB, h2]]
  simp only [cond_false, Bool.or_self, Bool.false_eq_true, if_false]
  by_cases o1 : op = 1
  · subst o1; rfl
  by_cases o2 : op = 2
  · subst o2; rfl
  by_cases o3 : op = 3
  · subst o3; rfl
  by_cases o4 : op = 4
  · subst o4; rfl
  by_cases o5 : op = 5
  · subst o5; rfl
  simp only [o1, o2, o3, o4, o5, if_false, beq_eq_false_iff_ne.2 o1, beq_eq_false_iff_ne.2 o2, beq_eq_false_iff_ne.2 o3, beq_eq_false_iff_ne.2 o4, beq_eq_false_iff_ne.2 o5, cond_false]
  rfl
end Go.Proofs.Ytbdcblpjemmipaa.Ex

namespace Go.Proofs.Ytbdcblpjemmipaa.Ex
set_option maxRecDepth 100000
set_option linter.unusedVariables false
set_option linter.unusedSimpArgs false
def bitV (m : Int) : Int := if 0 ≤ m ∧ m < 31 then ((2 ^ m.toNat : Nat) : Int) else 0
theorem one_bit (m : Int) (h : 0 ≤ m ∧ m < 31) : IntKind.i64.wrap (1 * 2 ^ Min.min (Int.toNat m) IntKind.i64.bits) = ((2 ^ m.toNat : Nat) : Int) := by
  obtain ⟨n, rfl⟩ : ∃ n : Nat, m = n := ⟨m.toNat, by omega⟩
  have hn : n < 31 := by omega
  have : ((List.range 31).all fun n => IntKind.i64.wrap (1 * 2 ^ Min.min (Int.toNat (n : Int)) IntKind.i64.bits) == ((2 ^ (n : Int).toNat : Nat) : Int)) = true := by kernel_rfl
  exact beq_iff_eq.1 (List.all_eq_true.1 this n (List.mem_range.2 hn))
theorem ofInt_nat (n : Nat) (h : n < 18446744073709551616) : (BitVec.ofInt IntKind.i64.bits (n : Int)).toNat = n := by
  show (BitVec.ofInt 64 (n : Int)).toNat = n
  rw [BitVec.toNat_ofInt]; omega
theorem wrap_nat (n : Nat) (h : n < 9223372036854775808) : IntKind.i64.wrap (n : Int) = (n : Int) := wrap_fits (by omega) (by omega)
theorem and64 {a b : Nat} (ha : a < 9223372036854775808) (hb : b < 9223372036854775808) : IntKind.i64.wrap ((BitVec.ofInt IntKind.i64.bits (a : Int) &&& BitVec.ofInt IntKind.i64.bits (b : Int)).toNat : Int) = ((a &&& b : Nat) : Int) := by
  rw [BitVec.toNat_and, ofInt_nat a (by omega), ofInt_nat b (by omega)]
  exact wrap_nat _ (Nat.lt_of_le_of_lt Nat.and_le_left ha)
theorem or64 {a b : Nat} (ha : a < 4611686018427387904) (hb : b < 4611686018427387904) : IntKind.i64.wrap ((BitVec.ofInt IntKind.i64.bits (a : Int) ||| BitVec.ofInt IntKind.i64.bits (b : Int)).toNat : Int) = ((a ||| b : Nat) : Int) := by
  rw [BitVec.toNat_or, ofInt_nat a (by omega), ofInt_nat b (by omega)]
  refine wrap_nat _ (Nat.lt_of_lt_of_le (Nat.or_lt_two_pow (n := 62) ha hb) (by decide))
def tb (s m : Int) : Bool := decide (0 ≤ m) && decide (m < 31) && s.toNat.testBit m.toNat
theorem and_pow (n k : Nat) : (n &&& 2 ^ k != 0) = n.testBit k := by
  cases h : n.testBit k
  · have : n &&& 2 ^ k = 0 := Nat.eq_of_testBit_eq fun i => by
      rw [Nat.testBit_and, Nat.testBit_two_pow, Nat.zero_testBit]
      by_cases e : k = i
      · subst e; rw [h]; rfl
      · simp [e]
    rw [this]; rfl
  · rw [bne_iff_ne]
    intro e
    have : (n &&& 2 ^ k).testBit k = true := by rw [Nat.testBit_and, h, Nat.testBit_two_pow_self]; rfl
    rw [e, Nat.zero_testBit] at this
    cases this
theorem bits_one (m : Int) : g_held_bits [m] = some (bitV m) := by
  unfold g_held_bits
  have e : L_held_bits_91_0_0 (0, [m], (([m] : List Int).length : Int), 0) = _ := rg_held_bits_91_0_0 [m] 0 (by simp)
  rw [e]
  unfold rv_held_bits_91_0_0 bitV
  simp only [rangeO, bd_held_bits_91_0_0, fn_held_bits_91_0_0]
  by_cases h1 : m ≥ 0
  · by_cases h2 : m < 31
    · rw [decide_eq_true h1, decide_eq_true h2, decide_eq_false (show ¬ m < 0 by omega), one_bit m ⟨h1, h2⟩, if_pos ⟨h1, h2⟩]
      simp only [cond_true, cond_false]
      have := or64 (a := 0) (b := 2 ^ m.toNat) (by decide) (Nat.lt_of_lt_of_le (Nat.pow_lt_pow_right (by decide) (show m.toNat < 31 by omega)) (by decide))
      rw [show ((0 : Nat) : Int) = 0 from rfl] at this
      rw [this, Nat.zero_or]
      rfl
    · rw [decide_eq_true h1, decide_eq_false h2, if_neg (by omega)]; rfl
  · rw [decide_eq_false h1, if_neg (by omega)]; rfl
theorem bitV_nat (m : Int) : ∃ k : Nat, bitV m = k ∧ k < 2147483648 ∧ ∀ n : Nat, (n &&& k != 0) = (decide (0 ≤ m) && decide (m < 31) && n.testBit m.toNat) := by
  unfold bitV
  by_cases h : 0 ≤ m ∧ m < 31
  · rw [if_pos h]
    refine ⟨2 ^ m.toNat, rfl, Nat.lt_of_lt_of_le (Nat.pow_lt_pow_right (by decide) (show m.toNat < 31 by omega)) (by decide), fun n => ?_⟩
    rw [decide_eq_true h.1, decide_eq_true h.2, and_pow]; rfl
  · rw [if_neg h]
    refine ⟨0, rfl, by decide, fun n => ?_⟩
    rw [Nat.and_zero]
    by_cases h1 : 0 ≤ m
    · rw [decide_eq_true h1, decide_eq_false (show ¬ m < 31 by omega)]; rfl
    · rw [decide_eq_false h1]; rfl
theorem n_held_Has (s m : Int) (hs : 0 ≤ s ∧ s < 9223372036854775808) : g_held_Has s m = some (tb s m) := by
  obtain ⟨n, rfl⟩ : ∃ n : Nat, s = n := ⟨s.toNat, by omega⟩
  obtain ⟨k, h1, h2, h3⟩ := bitV_nat m
  unfold g_held_Has G_held_bits tb
  simp only [bits_one, optC_some, h1]
  rw [and64 (by omega) (by omega), Int.toNat_natCast, ← h3 n]
  congr 1
  rw [Bool.eq_iff_iff]
  simp only [bne_iff_ne]
  omega
theorem n_held_With (s m : Int) (hs : 0 ≤ s ∧ s < 2147483648) : g_held_With s [m] = some (((s.toNat ||| (bitV m).toNat : Nat) : Int)) := by
  obtain ⟨n, rfl⟩ : ∃ n : Nat, s = n := ⟨s.toNat, by omega⟩
  obtain ⟨k, h1, h2, h3⟩ := bitV_nat m
  unfold g_held_With G_held_bits
  simp only [bits_one, optC_some, h1, Int.toNat_natCast]
  rw [or64 (by omega) (by omega)]
theorem andnot64 {a b : Nat} (ha : a < 9223372036854775808) (hb : b < 9223372036854775808) : ∃ r : Nat, IntKind.i64.wrap ((BitVec.ofInt IntKind.i64.bits (a : Int) &&& ~~~BitVec.ofInt IntKind.i64.bits (b : Int)).toNat : Int) = (r : Int) ∧ r ≤ a ∧ ∀ i, r.testBit i = (a.testBit i && !b.testBit i) := by
  refine ⟨(BitVec.ofInt IntKind.i64.bits (a : Int) &&& ~~~BitVec.ofInt IntKind.i64.bits (b : Int)).toNat, wrap_nat _ ?_, ?_, fun i => ?_⟩
  · rw [BitVec.toNat_and, ofInt_nat a (by omega)]
    exact Nat.lt_of_le_of_lt Nat.and_le_left ha
  · rw [BitVec.toNat_and, ofInt_nat a (by omega)]
    exact Nat.and_le_left
  · rw [BitVec.toNat_and, ofInt_nat a (by omega), Nat.testBit_and, BitVec.toNat_not, ofInt_nat b (by omega)]
    by_cases hi : i < 64
    · rw [show 2 ^ IntKind.i64.bits - 1 - b = 2 ^ 64 - (b + 1) from by show 2 ^ 64 - 1 - b = _; omega, Nat.testBit_two_pow_sub_succ (by omega)]
      simp [hi]
    · have : a.testBit i = false := Nat.testBit_lt_two_pow (Nat.lt_of_lt_of_le ha (Nat.le_trans (by decide : 9223372036854775808 ≤ 2 ^ 64) (Nat.pow_le_pow_right (by decide) (by omega))))
      rw [this]; rfl
def woI (s m : Int) : Int := IntKind.i64.wrap ((BitVec.ofInt IntKind.i64.bits s &&& ~~~BitVec.ofInt IntKind.i64.bits (bitV m)).toNat : Int)
def wiI (s m : Int) : Int := ((s.toNat ||| (bitV m).toNat : Nat) : Int)
theorem n_held_Without (s m : Int) : g_held_Without s [m] = some (woI s m) := by
  unfold g_held_Without G_held_bits woI
  simp only [bits_one, optC_some]
def apI (a b : Int) : Bool := a.toNat &&& b.toNat == 0
theorem list_go (s : Int) (hs : 0 ≤ s ∧ s < 9223372036854775808) : ∀ (k m : Nat) (acc : List Int), m + k = 31 → acc.length ≤ m →
    ∃ r, iterO (fun x => st_held_List_122_0_0 x.1 x.2.1 x.2.2) (k + 1) (s, (m : Int), acc) = some r ∧ (r.length = 0 ↔ acc.length = 0 ∧ ∀ i : Nat, m ≤ i → i < 31 → tb s (i : Int) = false)
  | 0, m, acc, h, ha => by
    refine ⟨acc, ?_, ⟨fun k => ⟨k, fun i h1 h2 => by omega⟩, fun k => k.1⟩⟩
    rw [iterO]
    simp only [st_held_List_122_0_0]
    rw [decide_eq_false (show ¬ (m : Int) < 31 by omega)]
    rfl
  | k + 1, m, acc, h, ha => by
    rw [iterO]
    simp only [st_held_List_122_0_0]
    rw [decide_eq_true (show (m : Int) < 31 by omega), wrap_next (show m < 31 by omega) (by decide)]
    simp only [G_held_Has, n_held_Has s m hs, optC_some, cond_true]
    cases hb : tb s (m : Int)
    · obtain ⟨r, e, q⟩ := list_go s hs k (m + 1) acc (by omega) (by omega)
      refine ⟨r, e, q.trans ⟨fun z => ⟨z.1, fun i h1 h2 => ?_⟩, fun z => ⟨z.1, fun i h1 h2 => z.2 i (by omega) h2⟩⟩⟩
      by_cases hi : i = m
      · subst hi; exact hb
      · exact z.2 i (by omega) h2
    · obtain ⟨r, e, q⟩ := list_go s hs k (m + 1) (acc ++ [(m : Int)]) (by omega) (by simp; omega)
      refine ⟨r, ?_, q.trans ⟨fun z => by simp at z, fun z => ?_⟩⟩
      · simp only [cond_true]
        rw [decide_eq_true (show (acc.length + [(m : Int)].length + 1) * 8 ≤ lim by simp only [List.length_singleton]; unfold lim; omega)]
        exact e
      · have := z.2 m (Nat.le_refl _) (by omega)
        rw [hb] at this; cases this
theorem zero_of_bits {n : Nat} (h : n < 2147483648) (hb : ∀ i, i < 31 → n.testBit i = false) : n = 0 := Nat.eq_of_testBit_eq fun i => by
  rw [Nat.zero_testBit]
  by_cases hi : i < 31
  · exact hb i hi
  · exact Nat.testBit_lt_two_pow (Nat.lt_of_lt_of_le h (Nat.le_trans (by decide : 2147483648 ≤ 2 ^ 31) (Nat.pow_le_pow_right (by decide) (by omega))))
theorem n_held_Apart (a b : Int) (ha : 0 ≤ a ∧ a < 2147483648) (hb : 0 ≤ b ∧ b < 2147483648) : g_held_Apart a b = some (apI a b) := by
  obtain ⟨x, rfl⟩ : ∃ n : Nat, a = n := ⟨a.toNat, by omega⟩
  obtain ⟨y, rfl⟩ : ∃ n : Nat, b = n := ⟨b.toNat, by omega⟩
  unfold g_held_Apart apI G_held_List g_held_List L_held_List_122_0_0
  rw [and64 (by omega) (by omega)]
  have hlt : x &&& y < 2147483648 := Nat.lt_of_le_of_lt Nat.and_le_left (by omega)
  obtain ⟨r, e, q⟩ := list_go ((x &&& y : Nat) : Int) (by omega) 31 0 [] (by decide) (by decide)
  have e2 := iterO_mono (31 + 1) FUEL _ _ (by decide) e
  have e3 : iterO (fun x => st_held_List_122_0_0 x.1 x.2.1 x.2.2) FUEL ((((x &&& y : Nat) : Int), 0, []) : Int × Int × List Int) = some r := e2
  simp only [e3, optC_some, Int.toNat_natCast]
  congr 1
  rw [Bool.eq_iff_iff]
  simp only [beq_iff_eq]
  constructor
  · intro h
    have := (q.1 (by omega)).2
    refine zero_of_bits hlt fun i hi => ?_
    have k := this i (Nat.zero_le _) hi
    unfold tb at k
    rw [decide_eq_true (show (0 : Int) ≤ (i : Int) by omega), decide_eq_true (show (i : Int) < 31 by omega)] at k
    simpa using k
  · intro h
    have := q.2 ⟨rfl, fun i _ _ => by unfold tb; rw [h]; simp⟩
    omega
end Go.Proofs.Ytbdcblpjemmipaa.Ex

namespace Go.Proofs.Ytbdcblpjemmipaa.Ex
set_option maxRecDepth 100000
set_option linter.unusedVariables false
set_option linter.unusedSimpArgs false
def seesB (t : Int) (ar : Bool) (g h : Int) (e : En) : Bool := e.1 != t && (e.2.1 == ar && (e.2.2.1 == g && apI e.2.2.2.1 h))
def seenS (p : En → Bool) (v : I) (l : List En) : I := l.foldl (fun v e => if p e then iJoin v e.2.2.2.2 else v) v
def seenV (l : List En) (t : Int) (ar : Bool) (g h : Int) : I := seenS (seesB t ar g h) nn l
def gainV (l : List En) (t : Int) (ar : Bool) (g h m : Int) : I := seenS (fun e => seesB t ar g h e && tb e.2.2.2.1 m) nn l
theorem seen_go (t : Int) (ar : Bool) (g h : Int) (hh : 0 ≤ h ∧ h < 2147483648) (b0 b01 b1 b11 : Int) (L : List En) : ∀ (l : List En) (i : Nat) (v : I), (∀ e ∈ l, entOK e) →
    rangeO (fun i s d => bd_tab_Seen_45_0_0 t ar g h b0 b01 b1 b11 L i s.1 s.2 d) (fun s => fn_tab_Seen_45_0_0 t ar g h b0 b01 b1 b11 L s.1 s.2) i l v = some (b0, b01, b1, b11, (seenS (seesB t ar g h) v l).1, (seenS (seesB t ar g h) v l).2)
  | [], i, v, _ => rfl
  | d :: r, i, v, he => by
    have ed := he d (by simp)
    have h1 : bd_tab_Seen_45_0_0 t ar g h b0 b01 b1 b11 L i v.1 v.2 d = some (.inl (if seesB t ar g h d then iJoin v d.2.2.2.2 else v)) := by
      unfold bd_tab_Seen_45_0_0 seesB
      simp only [G_held_Apart, n_held_Apart _ _ ed.h hh, G_itv_Join, n_itv_Join2, optC_some]
      cases d.1 != t <;> cases d.2.1 == ar <;> cases d.2.2.1 == g <;> cases apI d.2.2.2.1 h <;> rfl
    rw [rangeO]
    simp only [h1]
    exact seen_go t ar g h hh b0 b01 b1 b11 L r (i + 1) _ fun e k => he e (List.mem_cons_of_mem _ k)
theorem n_tab_Seen (l : List En) (t : Int) (ar : Bool) (g h : Int) (hh : 0 ≤ h ∧ h < 2147483648) (he : ∀ e ∈ l, entOK e) (hl : l.length < 9223372036854775807) : g_tab_Seen l t ar g h = some (seenV l t ar g h) := by
  unfold g_tab_Seen
  have e : L_tab_Seen_45_0_0 (t, ar, g, h, l, (l.length : Int), 0, 0, 0, 0, 0, 1, 0) = _ := rg_tab_Seen_45_0_0 t ar g h 0 0 0 0 l nn hl
  rw [e]
  unfold rv_tab_Seen_45_0_0
  rw [seen_go t ar g h hh 0 0 0 0 l l 0 nn he]
  rfl
theorem gain_go (t : Int) (ar : Bool) (g h m : Int) (hh : 0 ≤ h ∧ h < 2147483648) (b1 b11 b2 b21 : Int) (L : List En) : ∀ (l : List En) (i : Nat) (v : I), (∀ e ∈ l, entOK e) →
    rangeO (fun i s d => bd_tab_Gained_45_0_0 t ar g h b1 b11 m b2 b21 L i s.1 s.2 d) (fun s => fn_tab_Gained_45_0_0 t ar g h b1 b11 m b2 b21 L s.1 s.2) i l v =
      some (b1, b11, m, b2, b21, (seenS (fun e => seesB t ar g h e && tb e.2.2.2.1 m) v l).1, (seenS (fun e => seesB t ar g h e && tb e.2.2.2.1 m) v l).2)
  | [], i, v, _ => rfl
  | d :: r, i, v, he => by
    have ed := he d (by simp)
    have h1 : bd_tab_Gained_45_0_0 t ar g h b1 b11 m b2 b21 L i v.1 v.2 d = some (.inl (if seesB t ar g h d && tb d.2.2.2.1 m then iJoin v d.2.2.2.2 else v)) := by
      unfold bd_tab_Gained_45_0_0 seesB
      simp only [G_held_Apart, n_held_Apart _ _ ed.h hh, G_held_Has, n_held_Has d.2.2.2.1 m ⟨ed.h.1, by have := ed.h.2; omega⟩, G_itv_Join, n_itv_Join2, optC_some]
      cases d.1 != t <;> cases d.2.1 == ar <;> cases d.2.2.1 == g <;> cases apI d.2.2.2.1 h <;> cases tb d.2.2.2.1 m <;> rfl
    rw [rangeO]
    simp only [h1]
    exact gain_go t ar g h m hh b1 b11 b2 b21 L r (i + 1) _ fun e k => he e (List.mem_cons_of_mem _ k)
theorem n_tab_Gained (l : List En) (t : Int) (ar : Bool) (g h m : Int) (hh : 0 ≤ h ∧ h < 2147483648) (he : ∀ e ∈ l, entOK e) (hl : l.length < 9223372036854775807) : g_tab_Gained l t ar g h m = some (gainV l t ar g h m) := by
  unfold g_tab_Gained
  have e : L_tab_Gained_45_0_0 (t, ar, g, h, l, (l.length : Int), 0, 0, 0, m, 0, 0, 1, 0) = _ := rg_tab_Gained_45_0_0 t ar g h 0 0 m 0 0 l nn hl
  rw [e]
  unfold rv_tab_Gained_45_0_0
  rw [gain_go t ar g h m hh 0 0 0 0 l l 0 nn he]
  rfl
end Go.Proofs.Ytbdcblpjemmipaa.Ex

namespace Go.Proofs.Ytbdcblpjemmipaa.Ex
open Go.Proofs Go.Proofs.Ytbdcblpjemmipaa
set_option maxRecDepth 100000
set_option maxHeartbeats 2000000
set_option linter.unusedVariables false
set_option linter.unusedSimpArgs false
end Go.Proofs.Ytbdcblpjemmipaa.Ex

namespace Go.Proofs.Ytbdcblpjemmipaa.Ex
open Go.Proofs Go.Proofs.Ytbdcblpjemmipaa
set_option maxRecDepth 100000
set_option maxHeartbeats 2000000
set_option linter.unusedVariables false
set_option linter.unusedSimpArgs false
end Go.Proofs.Ytbdcblpjemmipaa.Ex

namespace Go.Proofs.Ytbdcblpjemmipaa.Ex
open Go.Proofs Go.Proofs.Ytbdcblpjemmipaa
set_option maxRecDepth 100000
set_option maxHeartbeats 2000000
set_option linter.unusedVariables false
set_option linter.unusedSimpArgs false
end Go.Proofs.Ytbdcblpjemmipaa.Ex

namespace Go.Proofs.Ytbdcblpjemmipaa.Ex
open Go.Proofs Go.Proofs.Ytbdcblpjemmipaa
set_option maxRecDepth 100000
set_option maxHeartbeats 2000000
set_option linter.unusedVariables false
set_option linter.unusedSimpArgs false
end Go.Proofs.Ytbdcblpjemmipaa.Ex

namespace Go.Proofs.Ytbdcblpjemmipaa.Ex
set_option maxRecDepth 100000
set_option maxHeartbeats 2000000
set_option linter.unusedVariables false
set_option linter.unusedSimpArgs false
end Go.Proofs.Ytbdcblpjemmipaa.Ex

namespace Go.Proofs.Ytbdcblpjemmipaa.Ex
set_option maxRecDepth 100000
set_option maxHeartbeats 2000000
set_option linter.unusedVariables false
set_option linter.unusedSimpArgs false
end Go.Proofs.Ytbdcblpjemmipaa.Ex

namespace Go.Proofs.Ytbdcblpjemmipaa.Ex
set_option maxRecDepth 100000
set_option maxHeartbeats 2000000
set_option linter.unusedVariables false
set_option linter.unusedSimpArgs false
end Go.Proofs.Ytbdcblpjemmipaa.Ex

namespace Go.Proofs.Ytbdcblpjemmipaa.Ex
open Go.Proofs Go.Proofs.Ytbdcblpjemmipaa
set_option maxRecDepth 100000
set_option maxHeartbeats 2000000
set_option linter.unusedVariables false
set_option linter.unusedSimpArgs false
end Go.Proofs.Ytbdcblpjemmipaa.Ex

namespace Go.Proofs.Ytbdcblpjemmipaa.Ex
open Go.Proofs Go.Proofs.Ytbdcblpjemmipaa
set_option maxRecDepth 100000
set_option maxHeartbeats 2000000
set_option linter.unusedVariables false
set_option linter.unusedSimpArgs false
def ash_flow_Read : List Sh := [.dat tU, .dat (.int .i64), .dat tE, .dat (.sl tEn), .dat .bool, .dat (.int .i64)]
noncomputable def sp_flow_Read : Nat → Option (List AV → Prog AV)
  | 13 => some (con_tab_Seen)
  | 55 => some (con_itv_Join)
  | _ => none
theorem hsp_flow_Read : ∀ g p, sp_flow_Read g = some p → SoundA Try.prog g p := by
  intro g p h
  unfold sp_flow_Read at h
  split at h
  · cases h; exact snd_tab_Seen
  · cases h; exact snd_itv_Join
  · cases h
noncomputable def cx_flow_Read : Ctx := { tab := tab, spec := sp_flow_Read, inl := inl, lps := fun _ _ => none, fuel := 40 }
theorem in_flow_Read : InlOk Try.prog cx_flow_Read := ⟨inl_ok, fun _ _ _ _ _ _ _ _ h => nomatch h⟩
theorem cal_flow_Read (g : Nat) : SoundA Try.prog g (evF cx_flow_Read keeps 8 g) := evF_sound (tabOk_of tab_ok) (cmpsOk_of tab_ok cmps_ok) mixed in_flow_Read hsp_flow_Read keeps 8 g
noncomputable def g_flow_Read (a0 : U) (a1 : Int) (a2 : E) (a3 : (List En)) (a4 : Bool) (a5 : Int) : Option I :=
  bif a4 then
 bif decide (0 ≤ a5) then
 optC a2.2.2.2.1[a5.toNat]? none fun d7 ↦
 optC (G_tab_Seen (a3, a1, a4, a5, a2.2.2.2.2.1, ())) none fun d8 ↦ optC (G_itv_Join ([d7, d8], ())) none fun d9 ↦ some (d9.1, d9.2)
 else none
 else
 bif decide (0 ≤ a5) then
 optC a2.2.2.1[a5.toNat]? none fun d7 ↦
 optC (G_tab_Seen (a3, a1, a4, a5, a2.2.2.2.2.1, ())) none fun d8 ↦ optC (G_itv_Join ([d7, d8], ())) none fun d9 ↦ some (d9.1, d9.2)
 else none
theorem raw_flow_Read (a0 : U) (a1 : Int) (a2 : E) (a3 : (List En)) (a4 : Bool) (a5 : Int) : evGX cx_flow_Read keeps 8 35 ash_flow_Read (.dat tI) ((a0, a1, a2, a3, a4, a5, ()) : (U × (Int × (E × ((List En) × (Bool × (Int × Unit))))))) = g_flow_Read a0 a1 a2 a3 a4 a5 := by kernel_rfl
noncomputable def G_flow_Read (x : (U × (Int × (E × ((List En) × (Bool × (Int × Unit))))))) : Option I := g_flow_Read x.1 x.2.1 x.2.2.1 x.2.2.2.1 x.2.2.2.2.1 x.2.2.2.2.2.1
noncomputable def con_flow_Read : List AV → Prog AV := conP false ash_flow_Read (.dat tI) G_flow_Read
theorem snd_flow_Read : SoundA Try.prog 35 con_flow_Read := conP_sound (cal_flow_Read 35) false (by rfl) (by rfl) (fun x r e => (evGX_eq _ _ _ _ _ _ _).trans ((raw_flow_Read x.1 x.2.1 x.2.2.1 x.2.2.2.1 x.2.2.2.2.1 x.2.2.2.2.2.1).trans e)) (.inr fun _ => rfl)
end Go.Proofs.Ytbdcblpjemmipaa.Ex

namespace Go.Proofs.Ytbdcblpjemmipaa.Ex
open Go.Proofs Go.Proofs.Ytbdcblpjemmipaa
set_option maxRecDepth 100000
set_option maxHeartbeats 2000000
set_option linter.unusedVariables false
set_option linter.unusedSimpArgs false
end Go.Proofs.Ytbdcblpjemmipaa.Ex

namespace Go.Proofs.Ytbdcblpjemmipaa.Ex
open Go.Proofs
set_option maxRecDepth 100000
set_option maxHeartbeats 2000000
set_option linter.unusedVariables false
set_option linter.unusedSimpArgs false
def upto {α : Type} (f : Nat → α → α) (k : Nat) (l : List α) : List α := l.mapIdx fun j d => if j < k then f j d else d
theorem upto_zero {α : Type} (f : Nat → α → α) (l : List α) : upto f 0 l = l := by
  apply List.ext_getElem?
  intro j
  simp [upto]
theorem upto_all {α : Type} (f : Nat → α → α) (l : List α) : upto f l.length l = l.mapIdx f := by
  apply List.ext_getElem?
  intro j
  simp only [upto, List.getElem?_mapIdx]
  cases h : l[j]? with
  | none => rfl
  | some d =>
    have := (List.getElem?_eq_some_iff.1 h).1
    simp [this]
theorem upto_get {α : Type} (f : Nat → α → α) {l : List α} {i : Nat} {d : α} (h : l[i]? = some d) : (upto f i l)[i]? = some d := by
  simp only [upto, List.getElem?_mapIdx, h]
  simp
theorem upto_set {α : Type} (f : Nat → α → α) {l : List α} {i : Nat} {d : α} (h : l[i]? = some d) : (upto f i l).set i (f i d) = upto f (i + 1) l := by
  apply List.ext_getElem?
  intro j
  have hi := (List.getElem?_eq_some_iff.1 h).1
  by_cases e : i = j
  · subst e
    rw [List.getElem?_set_self (by simp [upto]; exact hi)]
    simp only [upto, List.getElem?_mapIdx, h]
    simp
  · rw [List.getElem?_set_ne e]
    simp only [upto, List.getElem?_mapIdx]
    cases l[j]? with
    | none => rfl
    | some x =>
      by_cases k : j < i
      · simp [k, show j < i + 1 by omega]
      · simp [k, show ¬ j < i + 1 by omega]
theorem upto_len {α : Type} (f : Nat → α → α) (k : Nat) (l : List α) : (upto f k l).length = l.length := by simp [upto]
theorem iterO_map {X Y α : Type} {step : X → Option (X ⊕ Y)} (rx : Nat → List α → X) (f : Nat → α → α) (fin : List α → Y) (l : List α)
    (hs : ∀ i d r, l[i]? = some d → r.length = l.length → r[i]? = some d → step (rx i r) = some (.inl (rx (i + 1) (r.set i (f i d)))))
    (he : ∀ r, r.length = l.length → step (rx l.length r) = some (.inr (fin r))) (hl : l.length < 9223372036854775807) : iterO step FUEL (rx 0 l) = some (fin (l.mapIdx f)) := by
  have go : ∀ k i, i + k = l.length → iterO step (k + 1) (rx i (upto f i l)) = some (fin (l.mapIdx f)) := by
    intro k
    induction k with
    | zero =>
      intro i hi
      have : i = l.length := by omega
      subst this
      rw [iterO, he _ (upto_len _ _ _), upto_all]
    | succ k ih =>
      intro i hi
      obtain ⟨d, hd⟩ : ∃ d, l[i]? = some d := ⟨l[i]'(by omega), List.getElem?_eq_getElem _⟩
      rw [iterO, hs i d _ hd (upto_len _ _ _) (upto_get f hd), upto_set f hd]
      exact ih (i + 1) (by omega)
  have := go l.length 0 (by omega)
  rw [upto_zero] at this
  exact iterO_mono _ _ _ _ (by unfold FUEL; omega) this
theorem rangeO_id {α Y : Type} {f : Nat → Unit → α → Option (Unit ⊕ Y)} {fin : Unit → Option Y} : ∀ (l : List α) (i : Nat), (∀ j d, l[j]? = some d → f (i + j) () d = some (.inl ())) → rangeO f fin i l () = fin ()
  | [], _, _ => rfl
  | d :: r, i, h => by
    rw [rangeO_inl (by have := h 0 d rfl; rwa [Nat.add_zero] at this)]
    exact rangeO_id r (i + 1) fun j d hd => by rw [Nat.add_right_comm]; exact h (j + 1) d hd
def smallE (e : E) : Prop := e.2.1.length < 9223372036854775807 ∧ e.2.2.1.length < 9223372036854775807 ∧ e.2.2.2.1.length < 9223372036854775807
theorem seen_is {p : En → Bool} : ∀ {l : List En} {v : I}, isB v = true → (∀ e ∈ l, entOK e) → isB (seenS p v l) = true
  | [], v, hv, _ => hv
  | e :: r, v, hv, h => by
    unfold seenS
    rw [List.foldl_cons]
    refine seen_is (l := r) ?_ fun x hx => h x (List.mem_cons_of_mem _ hx)
    have he := (h e (List.mem_cons_self ..)).v
    split
    · rw [join_eq he]; exact rjoin_is hv he
    · exact hv
theorem nn_is : isB nn = true := by decide
theorem seenV_is {l : List En} {t : Int} {ar : Bool} {g h : Int} (he : ∀ e ∈ l, entOK e) : isB (seenV l t ar g h) = true := seen_is nn_is he
theorem gainV_is {l : List En} {t : Int} {ar : Bool} {g h m : Int} (he : ∀ e ∈ l, entOK e) : isB (gainV l t ar g h m) = true := seen_is nn_is he
def readV (d : I) (l : List En) (t : Int) (ar : Bool) (g h : Int) : I := rJoin d (seenV l t ar g h)
theorem n_flow_Read (u : U) (t : Int) (e : E) (l : List En) (ar : Bool) (g : Int) (d : I) (hg : 0 ≤ g) (hd : (if ar then e.2.2.2.1 else e.2.2.1)[g.toNat]? = some d)
    (hh : 0 ≤ e.2.2.2.2.1 ∧ e.2.2.2.2.1 < 2147483648) (he : ∀ e ∈ l, entOK e) (hl : l.length < 9223372036854775807) : g_flow_Read u t e l ar g = some (readV d l t ar g e.2.2.2.2.1) := by
  unfold g_flow_Read G_tab_Seen G_itv_Join
  simp only [n_tab_Seen l t ar g _ hh he hl, optC_some, n_itv_Join2, cd_true hg, join_eq (seenV_is he)]
  cases ar <;> (simp only [Bool.false_eq_true, if_true, if_false] at hd; rw [hd]; rfl)
end Go.Proofs.Ytbdcblpjemmipaa.Ex

namespace Go.Proofs.Ytbdcblpjemmipaa.Ex
open Go.Proofs Go.Proofs.Ytbdcblpjemmipaa
noncomputable def cx_slices_Clone_Itv : Ctx := { tab := tab, spec := fun _ => none, inl := inl, lps := fun _ _ => none, fuel := 40 }
noncomputable def con_slices_Clone_Itv : List AV → Prog AV := cloneP 16 tI
theorem snd_slices_Clone_Itv : SoundA Try.prog 131 con_slices_Clone_Itv :=
  clone_sound (cx := cx_slices_Clone_Itv) (cal := fun _ _ => .fail) (i := ⟨(.sl (.st (.pair (.int .i64) (.int .i64)))), 24, 25, [], false⟩) (ie := ⟨(.st (.pair (.int .i64) (.int .i64))), 16, 0, [(0, 1), (1, 1)], true⟩) (tabOk_of tab_ok) Try.func131 (inl_ok 131 Try.f131 rfl).2 (t := 49) (tb := 4) (s0 := "slices.go:355") (s1 := "slices.go:357") (s2 := "slices.go:358") (s3 := "slices.go:362") (by kernel_rfl) (by kernel_rfl) (by kernel_rfl) rfl rfl rfl rfl
end Go.Proofs.Ytbdcblpjemmipaa.Ex

