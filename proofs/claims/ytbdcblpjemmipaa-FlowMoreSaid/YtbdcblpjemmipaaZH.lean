/- A part of the proofs of the laws of flow: ZH. -/
import Derived.Test.YtbdcblpjemmipaaZF
import Derived.Test.YtbdcblpjemmipaaZG
namespace Go.Proofs.Ytbdcblpjemmipaa.Ex
open Go.Proofs Go.Proofs.Ytbdcblpjemmipaa
set_option maxRecDepth 100000
set_option maxHeartbeats 2000000
set_option linter.unusedVariables false
set_option linter.unusedSimpArgs false
abbrev ty_136_0 : Type := (((Int × (Int × (Int × (Int × (Int × (Int × (Int × (Int × (Int × ((List Int) × ((List Int) × (Int × ((List C) × (Int × (Int × (Bool × ((List I) × ((List I) × ((List I) × (Int × (Int × ((List En) × (Bool × ((List I) × ((List I) × ((List I) × (Int × (Int × (Bool × ((List I) × ((List I) × ((List I) × (Int × (Int × ((List Int) × ((List En) × ((List Ac) × Unit))))))))))))))))))))))))))))))))))))) × (Unit × (Bool × (Unit × (Int × (Int × Unit)))))) × ((List I) × Unit))
abbrev ty_136_1 : Type := ((Int × (Int × (Int × (Int × (Int × (Int × (Int × (Int × (Int × ((List Int) × ((List Int) × (Int × ((List C) × (Int × (Int × (Bool × ((List I) × ((List I) × ((List I) × (Int × (Int × ((List En) × (Bool × ((List I) × ((List I) × ((List I) × (Int × (Int × (Bool × ((List I) × ((List I) × ((List I) × (Int × (Int × ((List Int) × ((List En) × ((List Ac) × Unit))))))))))))))))))))))))))))))))))))) × ((List I) × (Bool × Unit)))
abbrev ty_136_2 : Type := (Int × Int × Int × Int × Int × Int × Int × Int × Int × (List Int) × (List Int) × Int × (List C) × Int × Int × Bool × (List I) × (List I) × (List I) × Int × Int × (List En) × Bool × (List I) × (List I) × (List I) × Int × Int × Bool × (List I) × (List I) × (List I) × Int × Int × (List Int) × (List En) × (List Ac) × Bool × Int × Int × (List I))
abbrev fn_136_0 := (fun (d : ty_136_0) => ((d.1.1.1, d.1.1.2.1, d.1.1.2.2.1, d.1.1.2.2.2.1, d.1.1.2.2.2.2.1, d.1.1.2.2.2.2.2.1, d.1.1.2.2.2.2.2.2.1, d.1.1.2.2.2.2.2.2.2.1, d.1.1.2.2.2.2.2.2.2.2.1, d.1.1.2.2.2.2.2.2.2.2.2.1, d.1.1.2.2.2.2.2.2.2.2.2.2.1, d.1.1.2.2.2.2.2.2.2.2.2.2.2.1, d.1.1.2.2.2.2.2.2.2.2.2.2.2.2.1, d.1.1.2.2.2.2.2.2.2.2.2.2.2.2.2.1, d.1.1.2.2.2.2.2.2.2.2.2.2.2.2.2.2.1, d.1.1.2.2.2.2.2.2.2.2.2.2.2.2.2.2.2.1, d.1.1.2.2.2.2.2.2.2.2.2.2.2.2.2.2.2.2.1, d.1.1.2.2.2.2.2.2.2.2.2.2.2.2.2.2.2.2.2.1, d.1.1.2.2.2.2.2.2.2.2.2.2.2.2.2.2.2.2.2.2.1, d.1.1.2.2.2.2.2.2.2.2.2.2.2.2.2.2.2.2.2.2.2.1, d.1.1.2.2.2.2.2.2.2.2.2.2.2.2.2.2.2.2.2.2.2.2.1, d.1.1.2.2.2.2.2.2.2.2.2.2.2.2.2.2.2.2.2.2.2.2.2.1, d.1.1.2.2.2.2.2.2.2.2.2.2.2.2.2.2.2.2.2.2.2.2.2.2.1, d.1.1.2.2.2.2.2.2.2.2.2.2.2.2.2.2.2.2.2.2.2.2.2.2.2.1, d.1.1.2.2.2.2.2.2.2.2.2.2.2.2.2.2.2.2.2.2.2.2.2.2.2.2.1, d.1.1.2.2.2.2.2.2.2.2.2.2.2.2.2.2.2.2.2.2.2.2.2.2.2.2.2.1, d.1.1.2.2.2.2.2.2.2.2.2.2.2.2.2.2.2.2.2.2.2.2.2.2.2.2.2.2.1, d.1.1.2.2.2.2.2.2.2.2.2.2.2.2.2.2.2.2.2.2.2.2.2.2.2.2.2.2.2.1, d.1.1.2.2.2.2.2.2.2.2.2.2.2.2.2.2.2.2.2.2.2.2.2.2.2.2.2.2.2.2.1, d.1.1.2.2.2.2.2.2.2.2.2.2.2.2.2.2.2.2.2.2.2.2.2.2.2.2.2.2.2.2.2.1, d.1.1.2.2.2.2.2.2.2.2.2.2.2.2.2.2.2.2.2.2.2.2.2.2.2.2.2.2.2.2.2.2.1, d.1.1.2.2.2.2.2.2.2.2.2.2.2.2.2.2.2.2.2.2.2.2.2.2.2.2.2.2.2.2.2.2.2.1, d.1.1.2.2.2.2.2.2.2.2.2.2.2.2.2.2.2.2.2.2.2.2.2.2.2.2.2.2.2.2.2.2.2.2.1, d.1.1.2.2.2.2.2.2.2.2.2.2.2.2.2.2.2.2.2.2.2.2.2.2.2.2.2.2.2.2.2.2.2.2.2.1, d.1.1.2.2.2.2.2.2.2.2.2.2.2.2.2.2.2.2.2.2.2.2.2.2.2.2.2.2.2.2.2.2.2.2.2.2.1, d.1.1.2.2.2.2.2.2.2.2.2.2.2.2.2.2.2.2.2.2.2.2.2.2.2.2.2.2.2.2.2.2.2.2.2.2.2.1, d.1.1.2.2.2.2.2.2.2.2.2.2.2.2.2.2.2.2.2.2.2.2.2.2.2.2.2.2.2.2.2.2.2.2.2.2.2.2.1, d.1.2.2.1, d.1.2.2.2.2.1, d.1.2.2.2.2.2.1, d.2.1) : ty_136_2))
abbrev fn_136_1 := (fun (x : (List I)) => ((((), ()), (x, ())) : ((Unit × Unit) × ((List I) × Unit))))
def ash_flow_deed_gains : List Sh := [.view [.int .i64, .int .i64, .int .i64, .int .i64, .int .i64, .int .i64, .int .i64, .int .i64, .int .i64, .sln (.int .i64), .sln (.int .i64), .int .i64, .sln tC, .int .i64, .int .i64, .bool, .sln tI, .sln tI, .sln tI, .int .i64, .int .i64, .sln tEn, .bool, .sln tI, .sln tI, .sln tI, .int .i64, .int .i64, .bool, .sln tI, .sln tI, .sln tI, .int .i64, .int .i64, .sln (.int .i64), .sln tEn, .sln tAc] 0, .dat (.sl tI), .dat .bool]
def kp_flow_deed_gains_133_0 : Nat → List Nat := fun c => bif c.beq 0 then [0, 1, 2, 11, 12, 13] else [1]
noncomputable def sp_flow_deed_gains : Nat → Option (List AV → Prog AV)
  | 131 => some (con_slices_Clone_Itv)
  | 14 => some (con_tab_Gained)
  | 55 => some (con_itv_Join)
  | _ => none
theorem hsp_flow_deed_gains : ∀ g p, sp_flow_deed_gains g = some p → SoundA Try.prog g p := by
  intro g p h
  unfold sp_flow_deed_gains at h
  split at h
  · cases h; exact snd_slices_Clone_Itv
  · cases h; exact snd_tab_Gained
  · cases h; exact snd_itv_Join
  · cases h
noncomputable def cx_flow_deed_gains0 : Ctx := { tab := tab, spec := sp_flow_deed_gains, inl := inl, lps := fun _ _ => none, fuel := 40 }
theorem in_flow_deed_gains0 : InlOk Try.prog cx_flow_deed_gains0 := ⟨inl_ok, fun _ _ _ _ _ _ _ _ h => nomatch h⟩
theorem cal_flow_deed_gains0 (g : Nat) : SoundA Try.prog g (evF cx_flow_deed_gains0 keeps 8 g) := evF_sound (tabOk_of tab_ok) (cmpsOk_of tab_ok cmps_ok) mixed in_flow_deed_gains0 hsp_flow_deed_gains keeps 8 g
noncomputable def F_flow_deed_gains_133_0 (base : Nat) : Tm → Prog (Nat × Tm) := evC cx_flow_deed_gains0 (evF cx_flow_deed_gains0 keeps 8) ⟨133, 47, keeps 133, base⟩ 0 (bodyX 133 0)
def s_flow_deed_gains_133_0_0 : StS := ⟨[(0, .view [.int .i64, .int .i64, .int .i64, .int .i64, .int .i64, .int .i64, .int .i64, .int .i64, .int .i64, .sl (.int .i64), .sl (.int .i64), .int .i64, .sl tC, .int .i64, .int .i64, .bool, .sl tI, .sl tI, .sl tI, .int .i64, .int .i64, .sl tEn, .bool, .sl tI, .sl tI, .sl tI, .int .i64, .int .i64, .bool, .sl tI, .sl tI, .sl tI, .int .i64, .int .i64, .sl (.int .i64), .sl tEn, .sl tAc] 0), (1, .row 0), (2, .bool), (11, .row 0), (12, .int .i64), (13, .int .i64)], [(0, .row tI)], 1⟩
def x_flow_deed_gains_133_0_0_0 : StS := ⟨[(1, .row 0)], [(0, .row tI)], 1⟩
noncomputable def st_flow_deed_gains_133_0_0 (s0 : Int) (s0_1 : Int) (s0_2 : Int) (s0_3 : Int) (s0_4 : Int) (s0_5 : Int) (s0_6 : Int) (s0_7 : Int) (s0_8 : Int) (s0_9 : (List Int)) (s0_10 : (List Int)) (s0_11 : Int) (s0_12 : (List C)) (s0_13 : Int) (s0_14 : Int) (s0_15 : Bool) (s0_16 : (List I)) (s0_17 : (List I)) (s0_18 : (List I)) (s0_19 : Int) (s0_20 : Int) (s0_21 : (List En)) (s0_22 : Bool) (s0_23 : (List I)) (s0_24 : (List I)) (s0_25 : (List I)) (s0_26 : Int) (s0_27 : Int) (s0_28 : Bool) (s0_29 : (List I)) (s0_30 : (List I)) (s0_31 : (List I)) (s0_32 : Int) (s0_33 : Int) (s0_34 : (List Int)) (s0_35 : (List En)) (s0_36 : (List Ac)) (s2 : Bool) (s12 : Int) (s13 : Int) (b0 : (List I)) : Option (ty_136_2 ⊕ (List I)) :=
  bif decide (s13 < s12) then
 bif decide (0 ≤ s13) then
 optC b0[s13.toNat]? none fun d43 ↦
 optC b0[s13.toNat]? none fun d44 ↦
 optC (G_tab_Gained (s0_21, s0_13, s2, s13, s0_19, s0_4, ())) none fun d45 ↦
 optC (G_itv_Join ([d44, d45], ())) none fun d46 ↦
 bif decide (0 ≤ s13) then
 optC b0[s13.toNat]? none fun d47 ↦
 optC b0[s13.toNat]? none fun d48 ↦
 some
 (Sum.inl
 (s0, s0_1, s0_2, s0_3, s0_4, s0_5, s0_6, s0_7, s0_8, s0_9, s0_10, s0_11, s0_12, s0_13, s0_14, s0_15, s0_16, s0_17, s0_18, s0_19, s0_20, s0_21, s0_22, s0_23, s0_24, s0_25, s0_26,
 s0_27, s0_28, s0_29, s0_30, s0_31, s0_32, s0_33, s0_34, s0_35, s0_36, s2, s12, Go.IntKind.i64.wrap (s13 + 1), b0.set s13.toNat d46))
 else none
 else none
 else some (Sum.inr b0)
theorem rn_flow_deed_gains_133_0_0 (s0 : Int) (s0_1 : Int) (s0_2 : Int) (s0_3 : Int) (s0_4 : Int) (s0_5 : Int) (s0_6 : Int) (s0_7 : Int) (s0_8 : Int) (s0_9 : (List Int)) (s0_10 : (List Int)) (s0_11 : Int) (s0_12 : (List C)) (s0_13 : Int) (s0_14 : Int) (s0_15 : Bool) (s0_16 : (List I)) (s0_17 : (List I)) (s0_18 : (List I)) (s0_19 : Int) (s0_20 : Int) (s0_21 : (List En)) (s0_22 : Bool) (s0_23 : (List I)) (s0_24 : (List I)) (s0_25 : (List I)) (s0_26 : Int) (s0_27 : Int) (s0_28 : Bool) (s0_29 : (List I)) (s0_30 : (List I)) (s0_31 : (List I)) (s0_32 : Int) (s0_33 : Int) (s0_34 : (List Int)) (s0_35 : (List En)) (s0_36 : (List Ac)) (s2 : Bool) (s12 : Int) (s13 : Int) (b0 : (List I)) : rdX cx_flow_deed_gains0 keeps 8 ⟨133, 47, keeps 133, 0⟩ 0 (bodyX 133 0) 0 kp_flow_deed_gains_133_0 (sT s_flow_deed_gains_133_0_0 (((s0, s0_1, s0_2, s0_3, s0_4, s0_5, s0_6, s0_7, s0_8, s0_9, s0_10, s0_11, s0_12, s0_13, s0_14, s0_15, s0_16, s0_17, s0_18, s0_19, s0_20, s0_21, s0_22, s0_23, s0_24, s0_25, s0_26, s0_27, s0_28, s0_29, s0_30, s0_31, s0_32, s0_33, s0_34, s0_35, s0_36, ()), (), s2, (), s12, s13, ()), (b0, ()))) (sH s_flow_deed_gains_133_0_0 (((s0, s0_1, s0_2, s0_3, s0_4, s0_5, s0_6, s0_7, s0_8, s0_9, s0_10, s0_11, s0_12, s0_13, s0_14, s0_15, s0_16, s0_17, s0_18, s0_19, s0_20, s0_21, s0_22, s0_23, s0_24, s0_25, s0_26, s0_27, s0_28, s0_29, s0_30, s0_31, s0_32, s0_33, s0_34, s0_35, s0_36, ()), (), s2, (), s12, s13, ()), (b0, ()))) (rdO (fun T h => (rdS s_flow_deed_gains_133_0_0 T h).map fn_136_0) (getE 2 x_flow_deed_gains_133_0_0_0 (fun (d : ((Unit × Unit) × ((List I) × Unit))) => ((d.2.1) : (List I))))) = st_flow_deed_gains_133_0_0 s0 s0_1 s0_2 s0_3 s0_4 s0_5 s0_6 s0_7 s0_8 s0_9 s0_10 s0_11 s0_12 s0_13 s0_14 s0_15 s0_16 s0_17 s0_18 s0_19 s0_20 s0_21 s0_22 s0_23 s0_24 s0_25 s0_26 s0_27 s0_28 s0_29 s0_30 s0_31 s0_32 s0_33 s0_34 s0_35 s0_36 s2 s12 s13 b0 := by kernel_rfl
noncomputable def L_flow_deed_gains_133_0_0 (x : ty_136_2) : Option (List I) := iterO (fun x => st_flow_deed_gains_133_0_0 x.1 x.2.1 x.2.2.1 x.2.2.2.1 x.2.2.2.2.1 x.2.2.2.2.2.1 x.2.2.2.2.2.2.1 x.2.2.2.2.2.2.2.1 x.2.2.2.2.2.2.2.2.1 x.2.2.2.2.2.2.2.2.2.1 x.2.2.2.2.2.2.2.2.2.2.1 x.2.2.2.2.2.2.2.2.2.2.2.1 x.2.2.2.2.2.2.2.2.2.2.2.2.1 x.2.2.2.2.2.2.2.2.2.2.2.2.2.1 x.2.2.2.2.2.2.2.2.2.2.2.2.2.2.1 x.2.2.2.2.2.2.2.2.2.2.2.2.2.2.2.1 x.2.2.2.2.2.2.2.2.2.2.2.2.2.2.2.2.1 x.2.2.2.2.2.2.2.2.2.2.2.2.2.2.2.2.2.1 x.2.2.2.2.2.2.2.2.2.2.2.2.2.2.2.2.2.2.1 x.2.2.2.2.2.2.2.2.2.2.2.2.2.2.2.2.2.2.2.1 x.2.2.2.2.2.2.2.2.2.2.2.2.2.2.2.2.2.2.2.2.1 x.2.2.2.2.2.2.2.2.2.2.2.2.2.2.2.2.2.2.2.2.2.1 x.2.2.2.2.2.2.2.2.2.2.2.2.2.2.2.2.2.2.2.2.2.2.1 x.2.2.2.2.2.2.2.2.2.2.2.2.2.2.2.2.2.2.2.2.2.2.2.1 x.2.2.2.2.2.2.2.2.2.2.2.2.2.2.2.2.2.2.2.2.2.2.2.2.1 x.2.2.2.2.2.2.2.2.2.2.2.2.2.2.2.2.2.2.2.2.2.2.2.2.2.1 x.2.2.2.2.2.2.2.2.2.2.2.2.2.2.2.2.2.2.2.2.2.2.2.2.2.2.1 x.2.2.2.2.2.2.2.2.2.2.2.2.2.2.2.2.2.2.2.2.2.2.2.2.2.2.2.1 x.2.2.2.2.2.2.2.2.2.2.2.2.2.2.2.2.2.2.2.2.2.2.2.2.2.2.2.2.1 x.2.2.2.2.2.2.2.2.2.2.2.2.2.2.2.2.2.2.2.2.2.2.2.2.2.2.2.2.2.1 x.2.2.2.2.2.2.2.2.2.2.2.2.2.2.2.2.2.2.2.2.2.2.2.2.2.2.2.2.2.2.1 x.2.2.2.2.2.2.2.2.2.2.2.2.2.2.2.2.2.2.2.2.2.2.2.2.2.2.2.2.2.2.2.1 x.2.2.2.2.2.2.2.2.2.2.2.2.2.2.2.2.2.2.2.2.2.2.2.2.2.2.2.2.2.2.2.2.1 x.2.2.2.2.2.2.2.2.2.2.2.2.2.2.2.2.2.2.2.2.2.2.2.2.2.2.2.2.2.2.2.2.2.1 x.2.2.2.2.2.2.2.2.2.2.2.2.2.2.2.2.2.2.2.2.2.2.2.2.2.2.2.2.2.2.2.2.2.2.1 x.2.2.2.2.2.2.2.2.2.2.2.2.2.2.2.2.2.2.2.2.2.2.2.2.2.2.2.2.2.2.2.2.2.2.2.1 x.2.2.2.2.2.2.2.2.2.2.2.2.2.2.2.2.2.2.2.2.2.2.2.2.2.2.2.2.2.2.2.2.2.2.2.2.1 x.2.2.2.2.2.2.2.2.2.2.2.2.2.2.2.2.2.2.2.2.2.2.2.2.2.2.2.2.2.2.2.2.2.2.2.2.2.1 x.2.2.2.2.2.2.2.2.2.2.2.2.2.2.2.2.2.2.2.2.2.2.2.2.2.2.2.2.2.2.2.2.2.2.2.2.2.2.1 x.2.2.2.2.2.2.2.2.2.2.2.2.2.2.2.2.2.2.2.2.2.2.2.2.2.2.2.2.2.2.2.2.2.2.2.2.2.2.2.1 x.2.2.2.2.2.2.2.2.2.2.2.2.2.2.2.2.2.2.2.2.2.2.2.2.2.2.2.2.2.2.2.2.2.2.2.2.2.2.2.2) FUEL x
noncomputable def q_flow_deed_gains_133_0 : Nat → Tm → Prog (Nat × Tm) := (varP 0 (fun T h => (rdS s_flow_deed_gains_133_0_0 T h).map fn_136_0) L_flow_deed_gains_133_0_0 (altE 2 x_flow_deed_gains_133_0_0_0 fn_136_1) (fun _ _ => .fail))
theorem ok_flow_deed_gains_133_0 : VarOk kp_flow_deed_gains_133_0 F_flow_deed_gains_133_0 q_flow_deed_gains_133_0 := (varX_ok (s := s_flow_deed_gains_133_0_0) (un := (fun (x : ty_136_2) => ((((x.1, x.2.1, x.2.2.1, x.2.2.2.1, x.2.2.2.2.1, x.2.2.2.2.2.1, x.2.2.2.2.2.2.1, x.2.2.2.2.2.2.2.1, x.2.2.2.2.2.2.2.2.1, x.2.2.2.2.2.2.2.2.2.1, x.2.2.2.2.2.2.2.2.2.2.1, x.2.2.2.2.2.2.2.2.2.2.2.1, x.2.2.2.2.2.2.2.2.2.2.2.2.1, x.2.2.2.2.2.2.2.2.2.2.2.2.2.1, x.2.2.2.2.2.2.2.2.2.2.2.2.2.2.1, x.2.2.2.2.2.2.2.2.2.2.2.2.2.2.2.1, x.2.2.2.2.2.2.2.2.2.2.2.2.2.2.2.2.1, x.2.2.2.2.2.2.2.2.2.2.2.2.2.2.2.2.2.1, x.2.2.2.2.2.2.2.2.2.2.2.2.2.2.2.2.2.2.1, x.2.2.2.2.2.2.2.2.2.2.2.2.2.2.2.2.2.2.2.1, x.2.2.2.2.2.2.2.2.2.2.2.2.2.2.2.2.2.2.2.2.1, x.2.2.2.2.2.2.2.2.2.2.2.2.2.2.2.2.2.2.2.2.2.1, x.2.2.2.2.2.2.2.2.2.2.2.2.2.2.2.2.2.2.2.2.2.2.1, x.2.2.2.2.2.2.2.2.2.2.2.2.2.2.2.2.2.2.2.2.2.2.2.1, x.2.2.2.2.2.2.2.2.2.2.2.2.2.2.2.2.2.2.2.2.2.2.2.2.1, x.2.2.2.2.2.2.2.2.2.2.2.2.2.2.2.2.2.2.2.2.2.2.2.2.2.1, x.2.2.2.2.2.2.2.2.2.2.2.2.2.2.2.2.2.2.2.2.2.2.2.2.2.2.1, x.2.2.2.2.2.2.2.2.2.2.2.2.2.2.2.2.2.2.2.2.2.2.2.2.2.2.2.1, x.2.2.2.2.2.2.2.2.2.2.2.2.2.2.2.2.2.2.2.2.2.2.2.2.2.2.2.2.1, x.2.2.2.2.2.2.2.2.2.2.2.2.2.2.2.2.2.2.2.2.2.2.2.2.2.2.2.2.2.1, x.2.2.2.2.2.2.2.2.2.2.2.2.2.2.2.2.2.2.2.2.2.2.2.2.2.2.2.2.2.2.1, x.2.2.2.2.2.2.2.2.2.2.2.2.2.2.2.2.2.2.2.2.2.2.2.2.2.2.2.2.2.2.2.1, x.2.2.2.2.2.2.2.2.2.2.2.2.2.2.2.2.2.2.2.2.2.2.2.2.2.2.2.2.2.2.2.2.1, x.2.2.2.2.2.2.2.2.2.2.2.2.2.2.2.2.2.2.2.2.2.2.2.2.2.2.2.2.2.2.2.2.2.1, x.2.2.2.2.2.2.2.2.2.2.2.2.2.2.2.2.2.2.2.2.2.2.2.2.2.2.2.2.2.2.2.2.2.2.1, x.2.2.2.2.2.2.2.2.2.2.2.2.2.2.2.2.2.2.2.2.2.2.2.2.2.2.2.2.2.2.2.2.2.2.2.1, x.2.2.2.2.2.2.2.2.2.2.2.2.2.2.2.2.2.2.2.2.2.2.2.2.2.2.2.2.2.2.2.2.2.2.2.2.1, ()), (), x.2.2.2.2.2.2.2.2.2.2.2.2.2.2.2.2.2.2.2.2.2.2.2.2.2.2.2.2.2.2.2.2.2.2.2.2.2.1, (), x.2.2.2.2.2.2.2.2.2.2.2.2.2.2.2.2.2.2.2.2.2.2.2.2.2.2.2.2.2.2.2.2.2.2.2.2.2.2.1, x.2.2.2.2.2.2.2.2.2.2.2.2.2.2.2.2.2.2.2.2.2.2.2.2.2.2.2.2.2.2.2.2.2.2.2.2.2.2.2.1, ()), (x.2.2.2.2.2.2.2.2.2.2.2.2.2.2.2.2.2.2.2.2.2.2.2.2.2.2.2.2.2.2.2.2.2.2.2.2.2.2.2.2, ())) : ty_136_0))) (by rfl) (fun _ => rfl) (getE_ok (s := x_flow_deed_gains_133_0_0_0) (un := fn_136_1) (by rfl) (fun _ => rfl)) (step := fun x => st_flow_deed_gains_133_0_0 x.1 x.2.1 x.2.2.1 x.2.2.2.1 x.2.2.2.2.1 x.2.2.2.2.2.1 x.2.2.2.2.2.2.1 x.2.2.2.2.2.2.2.1 x.2.2.2.2.2.2.2.2.1 x.2.2.2.2.2.2.2.2.2.1 x.2.2.2.2.2.2.2.2.2.2.1 x.2.2.2.2.2.2.2.2.2.2.2.1 x.2.2.2.2.2.2.2.2.2.2.2.2.1 x.2.2.2.2.2.2.2.2.2.2.2.2.2.1 x.2.2.2.2.2.2.2.2.2.2.2.2.2.2.1 x.2.2.2.2.2.2.2.2.2.2.2.2.2.2.2.1 x.2.2.2.2.2.2.2.2.2.2.2.2.2.2.2.2.1 x.2.2.2.2.2.2.2.2.2.2.2.2.2.2.2.2.2.1 x.2.2.2.2.2.2.2.2.2.2.2.2.2.2.2.2.2.2.1 x.2.2.2.2.2.2.2.2.2.2.2.2.2.2.2.2.2.2.2.1 x.2.2.2.2.2.2.2.2.2.2.2.2.2.2.2.2.2.2.2.2.1 x.2.2.2.2.2.2.2.2.2.2.2.2.2.2.2.2.2.2.2.2.2.1 x.2.2.2.2.2.2.2.2.2.2.2.2.2.2.2.2.2.2.2.2.2.2.1 x.2.2.2.2.2.2.2.2.2.2.2.2.2.2.2.2.2.2.2.2.2.2.2.1 x.2.2.2.2.2.2.2.2.2.2.2.2.2.2.2.2.2.2.2.2.2.2.2.2.1 x.2.2.2.2.2.2.2.2.2.2.2.2.2.2.2.2.2.2.2.2.2.2.2.2.2.1 x.2.2.2.2.2.2.2.2.2.2.2.2.2.2.2.2.2.2.2.2.2.2.2.2.2.2.1 x.2.2.2.2.2.2.2.2.2.2.2.2.2.2.2.2.2.2.2.2.2.2.2.2.2.2.2.1 x.2.2.2.2.2.2.2.2.2.2.2.2.2.2.2.2.2.2.2.2.2.2.2.2.2.2.2.2.1 x.2.2.2.2.2.2.2.2.2.2.2.2.2.2.2.2.2.2.2.2.2.2.2.2.2.2.2.2.2.1 x.2.2.2.2.2.2.2.2.2.2.2.2.2.2.2.2.2.2.2.2.2.2.2.2.2.2.2.2.2.2.1 x.2.2.2.2.2.2.2.2.2.2.2.2.2.2.2.2.2.2.2.2.2.2.2.2.2.2.2.2.2.2.2.1 x.2.2.2.2.2.2.2.2.2.2.2.2.2.2.2.2.2.2.2.2.2.2.2.2.2.2.2.2.2.2.2.2.1 x.2.2.2.2.2.2.2.2.2.2.2.2.2.2.2.2.2.2.2.2.2.2.2.2.2.2.2.2.2.2.2.2.2.1 x.2.2.2.2.2.2.2.2.2.2.2.2.2.2.2.2.2.2.2.2.2.2.2.2.2.2.2.2.2.2.2.2.2.2.1 x.2.2.2.2.2.2.2.2.2.2.2.2.2.2.2.2.2.2.2.2.2.2.2.2.2.2.2.2.2.2.2.2.2.2.2.1 x.2.2.2.2.2.2.2.2.2.2.2.2.2.2.2.2.2.2.2.2.2.2.2.2.2.2.2.2.2.2.2.2.2.2.2.2.1 x.2.2.2.2.2.2.2.2.2.2.2.2.2.2.2.2.2.2.2.2.2.2.2.2.2.2.2.2.2.2.2.2.2.2.2.2.2.1 x.2.2.2.2.2.2.2.2.2.2.2.2.2.2.2.2.2.2.2.2.2.2.2.2.2.2.2.2.2.2.2.2.2.2.2.2.2.2.1 x.2.2.2.2.2.2.2.2.2.2.2.2.2.2.2.2.2.2.2.2.2.2.2.2.2.2.2.2.2.2.2.2.2.2.2.2.2.2.2.1 x.2.2.2.2.2.2.2.2.2.2.2.2.2.2.2.2.2.2.2.2.2.2.2.2.2.2.2.2.2.2.2.2.2.2.2.2.2.2.2.2) (fun x => rn_flow_deed_gains_133_0_0 x.1 x.2.1 x.2.2.1 x.2.2.2.1 x.2.2.2.2.1 x.2.2.2.2.2.1 x.2.2.2.2.2.2.1 x.2.2.2.2.2.2.2.1 x.2.2.2.2.2.2.2.2.1 x.2.2.2.2.2.2.2.2.2.1 x.2.2.2.2.2.2.2.2.2.2.1 x.2.2.2.2.2.2.2.2.2.2.2.1 x.2.2.2.2.2.2.2.2.2.2.2.2.1 x.2.2.2.2.2.2.2.2.2.2.2.2.2.1 x.2.2.2.2.2.2.2.2.2.2.2.2.2.2.1 x.2.2.2.2.2.2.2.2.2.2.2.2.2.2.2.1 x.2.2.2.2.2.2.2.2.2.2.2.2.2.2.2.2.1 x.2.2.2.2.2.2.2.2.2.2.2.2.2.2.2.2.2.1 x.2.2.2.2.2.2.2.2.2.2.2.2.2.2.2.2.2.2.1 x.2.2.2.2.2.2.2.2.2.2.2.2.2.2.2.2.2.2.2.1 x.2.2.2.2.2.2.2.2.2.2.2.2.2.2.2.2.2.2.2.2.1 x.2.2.2.2.2.2.2.2.2.2.2.2.2.2.2.2.2.2.2.2.2.1 x.2.2.2.2.2.2.2.2.2.2.2.2.2.2.2.2.2.2.2.2.2.2.1 x.2.2.2.2.2.2.2.2.2.2.2.2.2.2.2.2.2.2.2.2.2.2.2.1 x.2.2.2.2.2.2.2.2.2.2.2.2.2.2.2.2.2.2.2.2.2.2.2.2.1 x.2.2.2.2.2.2.2.2.2.2.2.2.2.2.2.2.2.2.2.2.2.2.2.2.2.1 x.2.2.2.2.2.2.2.2.2.2.2.2.2.2.2.2.2.2.2.2.2.2.2.2.2.2.1 x.2.2.2.2.2.2.2.2.2.2.2.2.2.2.2.2.2.2.2.2.2.2.2.2.2.2.2.1 x.2.2.2.2.2.2.2.2.2.2.2.2.2.2.2.2.2.2.2.2.2.2.2.2.2.2.2.2.1 x.2.2.2.2.2.2.2.2.2.2.2.2.2.2.2.2.2.2.2.2.2.2.2.2.2.2.2.2.2.1 x.2.2.2.2.2.2.2.2.2.2.2.2.2.2.2.2.2.2.2.2.2.2.2.2.2.2.2.2.2.2.1 x.2.2.2.2.2.2.2.2.2.2.2.2.2.2.2.2.2.2.2.2.2.2.2.2.2.2.2.2.2.2.2.1 x.2.2.2.2.2.2.2.2.2.2.2.2.2.2.2.2.2.2.2.2.2.2.2.2.2.2.2.2.2.2.2.2.1 x.2.2.2.2.2.2.2.2.2.2.2.2.2.2.2.2.2.2.2.2.2.2.2.2.2.2.2.2.2.2.2.2.2.1 x.2.2.2.2.2.2.2.2.2.2.2.2.2.2.2.2.2.2.2.2.2.2.2.2.2.2.2.2.2.2.2.2.2.2.1 x.2.2.2.2.2.2.2.2.2.2.2.2.2.2.2.2.2.2.2.2.2.2.2.2.2.2.2.2.2.2.2.2.2.2.2.1 x.2.2.2.2.2.2.2.2.2.2.2.2.2.2.2.2.2.2.2.2.2.2.2.2.2.2.2.2.2.2.2.2.2.2.2.2.1 x.2.2.2.2.2.2.2.2.2.2.2.2.2.2.2.2.2.2.2.2.2.2.2.2.2.2.2.2.2.2.2.2.2.2.2.2.2.1 x.2.2.2.2.2.2.2.2.2.2.2.2.2.2.2.2.2.2.2.2.2.2.2.2.2.2.2.2.2.2.2.2.2.2.2.2.2.2.1 x.2.2.2.2.2.2.2.2.2.2.2.2.2.2.2.2.2.2.2.2.2.2.2.2.2.2.2.2.2.2.2.2.2.2.2.2.2.2.2.1 x.2.2.2.2.2.2.2.2.2.2.2.2.2.2.2.2.2.2.2.2.2.2.2.2.2.2.2.2.2.2.2.2.2.2.2.2.2.2.2.2) (fun _ _ e => ⟨_, e⟩) (altE_ok 2 x_flow_deed_gains_133_0_0_0 fn_136_1) (VarOk.fail _ _))
noncomputable def lpI_flow_deed_gains_133_0 (base : Nat) (T : Tm) : Prog (Nat × Tm) := .norm base (kp_flow_deed_gains_133_0 0) T (q_flow_deed_gains_133_0 base)
theorem sndI_flow_deed_gains_133_0 : SoundC Try.prog 47 (.loop (bodyX 133 0)) lpI_flow_deed_gains_133_0 := loopK_sound (cx := cx_flow_deed_gains0) (cal := evF cx_flow_deed_gains0 keeps 8) (kp := keeps 133) (tabOk_of tab_ok) (cmpsOk_of tab_ok cmps_ok) cal_flow_deed_gains0 mixed (hl_of (g := 133) (b := 0) in_flow_deed_gains0 (by kernel_rfl) (by kernel_rfl)) ok_flow_deed_gains_133_0
noncomputable def lpL_flow_deed_gains_133_0 : Nat → Tm → Prog (Nat × Tm) := lpI_flow_deed_gains_133_0
theorem sndL_flow_deed_gains_133_0 : SoundC Try.prog 47 (.loop (bodyX 133 0)) lpL_flow_deed_gains_133_0 := sndI_flow_deed_gains_133_0
noncomputable def lp_flow_deed_gains : Nat → Nat → Option (Nat → Tm → Prog (Nat × Tm))
  | 133, 0 => some lpL_flow_deed_gains_133_0
  | _, _ => none
noncomputable def cx_flow_deed_gains : Ctx := { tab := tab, spec := sp_flow_deed_gains, inl := inl, lps := lp_flow_deed_gains, fuel := 40 }
theorem in_flow_deed_gains : InlOk Try.prog cx_flow_deed_gains := ⟨inl_ok, fun g fn c hg hb q hq p hp => by
  change lp_flow_deed_gains g q.1 = some p at hp
  change inl g = some fn at hg
  generalize hq1 : q.1 = b at hp
  unfold lp_flow_deed_gains at hp
  split at hp
  · cases hp; exact lps_case (inl := inl) hg hb hq hq1 (by kernel_rfl) (by kernel_rfl) sndL_flow_deed_gains_133_0
  · cases hp⟩
theorem cal_flow_deed_gains (g : Nat) : SoundA Try.prog g (evF cx_flow_deed_gains keeps 8 g) := evF_sound (tabOk_of tab_ok) (cmpsOk_of tab_ok cmps_ok) mixed in_flow_deed_gains hsp_flow_deed_gains keeps 8 g
noncomputable def g_flow_deed_gains (a0 : Int) (a1 : Int) (a2 : Int) (a3 : Int) (a4 : Int) (a5 : Int) (a6 : Int) (a7 : Int) (a8 : Int) (a9 : (List Int)) (a10 : (List Int)) (a11 : Int) (a12 : (List C)) (a13 : Int) (a14 : Int) (a15 : Bool) (a16 : (List I)) (a17 : (List I)) (a18 : (List I)) (a19 : Int) (a20 : Int) (a21 : (List En)) (a22 : Bool) (a23 : (List I)) (a24 : (List I)) (a25 : (List I)) (a26 : Int) (a27 : Int) (a28 : Bool) (a29 : (List I)) (a30 : (List I)) (a31 : (List I)) (a32 : Int) (a33 : Int) (a34 : (List Int)) (a35 : (List En)) (a36 : (List Ac)) (a37 : (List I)) (a38 : Bool) : Option (List I) :=
  bif decide (((List.length (α := I) []) + a37.length + 1) * 16 ≤ lim) then
 optC
 (L_flow_deed_gains_133_0_0
 (a0, a1, a2, a3, a4, a5, a6, a7, a8, a9, a10, a11, a12, a13, a14, a15, a16, a17, a18, a19, a20, a21, a22, a23, a24, a25, a26, a27, a28, a29, a30, a31, a32, a33, a34, a35, a36, a38,
 (↑([] ++ a37).length : Int), 0, [] ++ a37))
 none fun d41 ↦ some d41
 else none
theorem raw_flow_deed_gains (a0 : Int) (a1 : Int) (a2 : Int) (a3 : Int) (a4 : Int) (a5 : Int) (a6 : Int) (a7 : Int) (a8 : Int) (a9 : (List Int)) (a10 : (List Int)) (a11 : Int) (a12 : (List C)) (a13 : Int) (a14 : Int) (a15 : Bool) (a16 : (List I)) (a17 : (List I)) (a18 : (List I)) (a19 : Int) (a20 : Int) (a21 : (List En)) (a22 : Bool) (a23 : (List I)) (a24 : (List I)) (a25 : (List I)) (a26 : Int) (a27 : Int) (a28 : Bool) (a29 : (List I)) (a30 : (List I)) (a31 : (List I)) (a32 : Int) (a33 : Int) (a34 : (List Int)) (a35 : (List En)) (a36 : (List Ac)) (a37 : (List I)) (a38 : Bool) : evRX cx_flow_deed_gains keeps 8 133 ash_flow_deed_gains tI (((a0, a1, a2, a3, a4, a5, a6, a7, a8, a9, a10, a11, a12, a13, a14, a15, a16, a17, a18, a19, a20, a21, a22, a23, a24, a25, a26, a27, a28, a29, a30, a31, a32, a33, a34, a35, a36, ()), a37, a38, ()) : ty_136_1) = g_flow_deed_gains a0 a1 a2 a3 a4 a5 a6 a7 a8 a9 a10 a11 a12 a13 a14 a15 a16 a17 a18 a19 a20 a21 a22 a23 a24 a25 a26 a27 a28 a29 a30 a31 a32 a33 a34 a35 a36 a37 a38 := by kernel_rfl
noncomputable def G_flow_deed_gains (x : ty_136_1) : Option (List I) := g_flow_deed_gains x.1.1 x.1.2.1 x.1.2.2.1 x.1.2.2.2.1 x.1.2.2.2.2.1 x.1.2.2.2.2.2.1 x.1.2.2.2.2.2.2.1 x.1.2.2.2.2.2.2.2.1 x.1.2.2.2.2.2.2.2.2.1 x.1.2.2.2.2.2.2.2.2.2.1 x.1.2.2.2.2.2.2.2.2.2.2.1 x.1.2.2.2.2.2.2.2.2.2.2.2.1 x.1.2.2.2.2.2.2.2.2.2.2.2.2.1 x.1.2.2.2.2.2.2.2.2.2.2.2.2.2.1 x.1.2.2.2.2.2.2.2.2.2.2.2.2.2.2.1 x.1.2.2.2.2.2.2.2.2.2.2.2.2.2.2.2.1 x.1.2.2.2.2.2.2.2.2.2.2.2.2.2.2.2.2.1 x.1.2.2.2.2.2.2.2.2.2.2.2.2.2.2.2.2.2.1 x.1.2.2.2.2.2.2.2.2.2.2.2.2.2.2.2.2.2.2.1 x.1.2.2.2.2.2.2.2.2.2.2.2.2.2.2.2.2.2.2.2.1 x.1.2.2.2.2.2.2.2.2.2.2.2.2.2.2.2.2.2.2.2.2.1 x.1.2.2.2.2.2.2.2.2.2.2.2.2.2.2.2.2.2.2.2.2.2.1 x.1.2.2.2.2.2.2.2.2.2.2.2.2.2.2.2.2.2.2.2.2.2.2.1 x.1.2.2.2.2.2.2.2.2.2.2.2.2.2.2.2.2.2.2.2.2.2.2.2.1 x.1.2.2.2.2.2.2.2.2.2.2.2.2.2.2.2.2.2.2.2.2.2.2.2.2.1 x.1.2.2.2.2.2.2.2.2.2.2.2.2.2.2.2.2.2.2.2.2.2.2.2.2.2.1 x.1.2.2.2.2.2.2.2.2.2.2.2.2.2.2.2.2.2.2.2.2.2.2.2.2.2.2.1 x.1.2.2.2.2.2.2.2.2.2.2.2.2.2.2.2.2.2.2.2.2.2.2.2.2.2.2.2.1 x.1.2.2.2.2.2.2.2.2.2.2.2.2.2.2.2.2.2.2.2.2.2.2.2.2.2.2.2.2.1 x.1.2.2.2.2.2.2.2.2.2.2.2.2.2.2.2.2.2.2.2.2.2.2.2.2.2.2.2.2.2.1 x.1.2.2.2.2.2.2.2.2.2.2.2.2.2.2.2.2.2.2.2.2.2.2.2.2.2.2.2.2.2.2.1 x.1.2.2.2.2.2.2.2.2.2.2.2.2.2.2.2.2.2.2.2.2.2.2.2.2.2.2.2.2.2.2.2.1 x.1.2.2.2.2.2.2.2.2.2.2.2.2.2.2.2.2.2.2.2.2.2.2.2.2.2.2.2.2.2.2.2.2.1 x.1.2.2.2.2.2.2.2.2.2.2.2.2.2.2.2.2.2.2.2.2.2.2.2.2.2.2.2.2.2.2.2.2.2.1 x.1.2.2.2.2.2.2.2.2.2.2.2.2.2.2.2.2.2.2.2.2.2.2.2.2.2.2.2.2.2.2.2.2.2.2.1 x.1.2.2.2.2.2.2.2.2.2.2.2.2.2.2.2.2.2.2.2.2.2.2.2.2.2.2.2.2.2.2.2.2.2.2.2.1 x.1.2.2.2.2.2.2.2.2.2.2.2.2.2.2.2.2.2.2.2.2.2.2.2.2.2.2.2.2.2.2.2.2.2.2.2.2.1 x.2.1 x.2.2.1
noncomputable def con_flow_deed_gains : List AV → Prog AV := conR false ash_flow_deed_gains tI G_flow_deed_gains
theorem snd_flow_deed_gains : SoundA Try.prog 133 con_flow_deed_gains := conR_sound (cal_flow_deed_gains 133) false (by rfl) (fun x r e => (evRX_eq _ _ _ _ _ _ _).trans ((raw_flow_deed_gains x.1.1 x.1.2.1 x.1.2.2.1 x.1.2.2.2.1 x.1.2.2.2.2.1 x.1.2.2.2.2.2.1 x.1.2.2.2.2.2.2.1 x.1.2.2.2.2.2.2.2.1 x.1.2.2.2.2.2.2.2.2.1 x.1.2.2.2.2.2.2.2.2.2.1 x.1.2.2.2.2.2.2.2.2.2.2.1 x.1.2.2.2.2.2.2.2.2.2.2.2.1 x.1.2.2.2.2.2.2.2.2.2.2.2.2.1 x.1.2.2.2.2.2.2.2.2.2.2.2.2.2.1 x.1.2.2.2.2.2.2.2.2.2.2.2.2.2.2.1 x.1.2.2.2.2.2.2.2.2.2.2.2.2.2.2.2.1 x.1.2.2.2.2.2.2.2.2.2.2.2.2.2.2.2.2.1 x.1.2.2.2.2.2.2.2.2.2.2.2.2.2.2.2.2.2.1 x.1.2.2.2.2.2.2.2.2.2.2.2.2.2.2.2.2.2.2.1 x.1.2.2.2.2.2.2.2.2.2.2.2.2.2.2.2.2.2.2.2.1 x.1.2.2.2.2.2.2.2.2.2.2.2.2.2.2.2.2.2.2.2.2.1 x.1.2.2.2.2.2.2.2.2.2.2.2.2.2.2.2.2.2.2.2.2.2.1 x.1.2.2.2.2.2.2.2.2.2.2.2.2.2.2.2.2.2.2.2.2.2.2.1 x.1.2.2.2.2.2.2.2.2.2.2.2.2.2.2.2.2.2.2.2.2.2.2.2.1 x.1.2.2.2.2.2.2.2.2.2.2.2.2.2.2.2.2.2.2.2.2.2.2.2.2.1 x.1.2.2.2.2.2.2.2.2.2.2.2.2.2.2.2.2.2.2.2.2.2.2.2.2.2.1 x.1.2.2.2.2.2.2.2.2.2.2.2.2.2.2.2.2.2.2.2.2.2.2.2.2.2.2.1 x.1.2.2.2.2.2.2.2.2.2.2.2.2.2.2.2.2.2.2.2.2.2.2.2.2.2.2.2.1 x.1.2.2.2.2.2.2.2.2.2.2.2.2.2.2.2.2.2.2.2.2.2.2.2.2.2.2.2.2.1 x.1.2.2.2.2.2.2.2.2.2.2.2.2.2.2.2.2.2.2.2.2.2.2.2.2.2.2.2.2.2.1 x.1.2.2.2.2.2.2.2.2.2.2.2.2.2.2.2.2.2.2.2.2.2.2.2.2.2.2.2.2.2.2.1 x.1.2.2.2.2.2.2.2.2.2.2.2.2.2.2.2.2.2.2.2.2.2.2.2.2.2.2.2.2.2.2.2.1 x.1.2.2.2.2.2.2.2.2.2.2.2.2.2.2.2.2.2.2.2.2.2.2.2.2.2.2.2.2.2.2.2.2.1 x.1.2.2.2.2.2.2.2.2.2.2.2.2.2.2.2.2.2.2.2.2.2.2.2.2.2.2.2.2.2.2.2.2.2.1 x.1.2.2.2.2.2.2.2.2.2.2.2.2.2.2.2.2.2.2.2.2.2.2.2.2.2.2.2.2.2.2.2.2.2.2.1 x.1.2.2.2.2.2.2.2.2.2.2.2.2.2.2.2.2.2.2.2.2.2.2.2.2.2.2.2.2.2.2.2.2.2.2.2.1 x.1.2.2.2.2.2.2.2.2.2.2.2.2.2.2.2.2.2.2.2.2.2.2.2.2.2.2.2.2.2.2.2.2.2.2.2.2.1 x.2.1 x.2.2.1).trans e)) (.inr (by rfl))
end Go.Proofs.Ytbdcblpjemmipaa.Ex

namespace Go.Proofs.Ytbdcblpjemmipaa.Ex
open Go.Proofs Go.Proofs.Ytbdcblpjemmipaa
set_option maxRecDepth 100000
set_option maxHeartbeats 2000000
set_option linter.unusedVariables false
set_option linter.unusedSimpArgs false
end Go.Proofs.Ytbdcblpjemmipaa.Ex

namespace Go.Proofs.Ytbdcblpjemmipaa.Ex
open Go.Proofs
set_option maxRecDepth 100000
set_option maxHeartbeats 2000000
set_option linter.unusedVariables false
set_option linter.unusedSimpArgs false
def gmap (l : List En) (t : Int) (ar : Bool) (must m : Int) (r : List I) : List I := r.mapIdx fun i d => rJoin d (gainV l t ar i must m)
theorem mg_flow_deed_gains_133_0_0 {s0 : Int} {s0_1 : Int} {s0_2 : Int} {s0_3 : Int} {s0_4 : Int} {s0_5 : Int} {s0_6 : Int} {s0_7 : Int} {s0_8 : Int} {s0_9 : (List Int)} {s0_10 : (List Int)} {s0_11 : Int} {s0_12 : (List C)} {s0_13 : Int} {s0_14 : Int} {s0_15 : Bool} {s0_16 : (List I)} {s0_17 : (List I)} {s0_18 : (List I)} {s0_19 : Int} {s0_20 : Int} {s0_21 : (List En)} {s0_22 : Bool} {s0_23 : (List I)} {s0_24 : (List I)} {s0_25 : (List I)} {s0_26 : Int} {s0_27 : Int} {s0_28 : Bool} {s0_29 : (List I)} {s0_30 : (List I)} {s0_31 : (List I)} {s0_32 : Int} {s0_33 : Int} {s0_34 : (List Int)} {s0_35 : (List En)} {s0_36 : (List Ac)} {s2 : Bool} {l : List I} (hh : 0 ≤ s0_19 ∧ s0_19 < 2147483648) (he : ∀ e ∈ s0_21, entOK e) (hn : s0_21.length < 1000000000000) (hl : l.length < 9223372036854775807) : L_flow_deed_gains_133_0_0 (s0, s0_1, s0_2, s0_3, s0_4, s0_5, s0_6, s0_7, s0_8, s0_9, s0_10, s0_11, s0_12, s0_13, s0_14, s0_15, s0_16, s0_17, s0_18, s0_19, s0_20, s0_21, s0_22, s0_23, s0_24, s0_25, s0_26, s0_27, s0_28, s0_29, s0_30, s0_31, s0_32, s0_33, s0_34, s0_35, s0_36, s2, (l.length : Int), 0, l) = some (gmap s0_21 s0_13 s2 s0_19 s0_4 l) := by
  unfold L_flow_deed_gains_133_0_0
  refine iterO_map (fun i r => ((s0, s0_1, s0_2, s0_3, s0_4, s0_5, s0_6, s0_7, s0_8, s0_9, s0_10, s0_11, s0_12, s0_13, s0_14, s0_15, s0_16, s0_17, s0_18, s0_19, s0_20, s0_21, s0_22, s0_23, s0_24, s0_25, s0_26, s0_27, s0_28, s0_29, s0_30, s0_31, s0_32, s0_33, s0_34, s0_35, s0_36, s2, (l.length : Int), (i : Int), r) : (Int × Int × Int × Int × Int × Int × Int × Int × Int × (List Int) × (List Int) × Int × (List C) × Int × Int × Bool × (List I) × (List I) × (List I) × Int × Int × (List En) × Bool × (List I) × (List I) × (List I) × Int × Int × Bool × (List I) × (List I) × (List I) × Int × Int × (List Int) × (List En) × (List Ac) × Bool × Int × Int × (List I)))) (fun i d => rJoin d (gainV s0_21 s0_13 s2 i s0_19 s0_4)) (fun r => (r : (List I))) l ?_ ?_ hl
  · intro i d r hi hr hd
    have hj : i < l.length := (List.getElem?_eq_some_iff.1 hi).1
    have e1 : decide ((i : Int) < (l.length : Int)) = true := decide_eq_true (by omega)
    have e2 : decide (0 ≤ (i : Int)) = true := decide_eq_true (by omega)
    have e3 : Int.toNat (i : Int) = i := Int.toNat_natCast i
    have e4 := wrap_next hj (Nat.le_of_lt hl)
    show st_flow_deed_gains_133_0_0 (s0) (s0_1) (s0_2) (s0_3) (s0_4) (s0_5) (s0_6) (s0_7) (s0_8) (s0_9) (s0_10) (s0_11) (s0_12) (s0_13) (s0_14) (s0_15) (s0_16) (s0_17) (s0_18) (s0_19) (s0_20) (s0_21) (s0_22) (s0_23) (s0_24) (s0_25) (s0_26) (s0_27) (s0_28) (s0_29) (s0_30) (s0_31) (s0_32) (s0_33) (s0_34) (s0_35) (s0_36) (s2) ((l.length : Int)) ((i : Int)) (r) = _
    unfold st_flow_deed_gains_133_0_0 G_tab_Gained G_itv_Join
    simp only [e1, e2, e3, e4, hd, cond_true, optC_some, n_tab_Gained _ _ _ _ _ _ hh he (by omega), n_itv_Join2, join_eq (gainV_is he)]
  · intro r hr
    have e1 : decide ((l.length : Int) < (l.length : Int)) = false := decide_eq_false (by omega)
    show st_flow_deed_gains_133_0_0 (s0) (s0_1) (s0_2) (s0_3) (s0_4) (s0_5) (s0_6) (s0_7) (s0_8) (s0_9) (s0_10) (s0_11) (s0_12) (s0_13) (s0_14) (s0_15) (s0_16) (s0_17) (s0_18) (s0_19) (s0_20) (s0_21) (s0_22) (s0_23) (s0_24) (s0_25) (s0_26) (s0_27) (s0_28) (s0_29) (s0_30) (s0_31) (s0_32) (s0_33) (s0_34) (s0_35) (s0_36) (s2) ((l.length : Int)) ((l.length : Int)) (r) = _
    unfold st_flow_deed_gains_133_0_0
    rw [e1]
    rfl
end Go.Proofs.Ytbdcblpjemmipaa.Ex

namespace Go.Proofs.Ytbdcblpjemmipaa.Ex
open Go.Proofs Go.Proofs.Ytbdcblpjemmipaa
set_option maxRecDepth 100000
set_option maxHeartbeats 2000000
set_option linter.unusedVariables false
set_option linter.unusedSimpArgs false
def ash_num_Not : List Sh := [.dat (.int .i64)]
noncomputable def sp_num_Not : Nat → Option (List AV → Prog AV)
  | _ => none
theorem hsp_num_Not : ∀ g p, sp_num_Not g = some p → SoundA Try.prog g p := by
  intro g p h
  unfold sp_num_Not at h
  split at h
  · cases h
noncomputable def cx_num_Not : Ctx := { tab := tab, spec := sp_num_Not, inl := inl, lps := fun _ _ => none, fuel := 40 }
theorem in_num_Not : InlOk Try.prog cx_num_Not := ⟨inl_ok, fun _ _ _ _ _ _ _ _ h => nomatch h⟩
theorem cal_num_Not (g : Nat) : SoundA Try.prog g (evF cx_num_Not keeps 8 g) := evF_sound (tabOk_of tab_ok) (cmpsOk_of tab_ok cmps_ok) mixed in_num_Not hsp_num_Not keeps 8 g
noncomputable def g_num_Not (a0 : Int) : Option Int :=
  bif a0 == 1 then some 5
 else bif a0 == 2 then some 6 else bif a0 == 3 then some 4 else bif a0 == 4 then some 3 else bif a0 == 5 then some 1 else bif a0 == 6 then some 2 else some a0
theorem raw_num_Not (a0 : Int) : evGX cx_num_Not keeps 8 110 ash_num_Not (.dat (.int .i64)) ((a0, ()) : (Int × Unit)) = g_num_Not a0 := by kernel_rfl
noncomputable def G_num_Not (x : (Int × Unit)) : Option Int := g_num_Not x.1
noncomputable def con_num_Not : List AV → Prog AV := conP true ash_num_Not (.dat (.int .i64)) G_num_Not
theorem snd_num_Not : SoundA Try.prog 110 con_num_Not := conP_sound (cal_num_Not 110) true (by rfl) (by rfl) (fun x r e => (evGX_eq _ _ _ _ _ _ _).trans ((raw_num_Not x.1).trans e)) (.inl rfl)
end Go.Proofs.Ytbdcblpjemmipaa.Ex

namespace Go.Proofs.Ytbdcblpjemmipaa.Ex
open Go.Proofs Go.Proofs.Ytbdcblpjemmipaa
set_option maxRecDepth 100000
set_option maxHeartbeats 2000000
set_option linter.unusedVariables false
set_option linter.unusedSimpArgs false
def ash_env_None : List Sh := [.dat tU, .dat (.int .i64)]
noncomputable def sp_env_None : Nat → Option (List AV → Prog AV)
  | _ => none
theorem hsp_env_None : ∀ g p, sp_env_None g = some p → SoundA Try.prog g p := by
  intro g p h
  unfold sp_env_None at h
  split at h
  · cases h
noncomputable def cx_env_None : Ctx := { tab := tab, spec := sp_env_None, inl := inl, lps := fun _ _ => none, fuel := 40 }
theorem in_env_None : InlOk Try.prog cx_env_None := ⟨inl_ok, fun _ _ _ _ _ _ _ _ h => nomatch h⟩
theorem cal_env_None (g : Nat) : SoundA Try.prog g (evF cx_env_None keeps 8 g) := evF_sound (tabOk_of tab_ok) (cmpsOk_of tab_ok cmps_ok) mixed in_env_None hsp_env_None keeps 8 g
noncomputable def g_env_None (a0 : U) (a1 : Int) : Option E :=
  some (false, [], [], [], 0, 0)
theorem raw_env_None (a0 : U) (a1 : Int) : evGX cx_env_None keeps 8 137 ash_env_None (.dat tE) ((a0, a1, ()) : (U × (Int × Unit))) = g_env_None a0 a1 := by kernel_rfl
noncomputable def G_env_None (x : (U × (Int × Unit))) : Option E := g_env_None x.1 x.2.1
noncomputable def con_env_None : List AV → Prog AV := conP true ash_env_None (.dat tE) G_env_None
theorem snd_env_None : SoundA Try.prog 137 con_env_None := conP_sound (cal_env_None 137) true (by rfl) (by rfl) (fun x r e => (evGX_eq _ _ _ _ _ _ _).trans ((raw_env_None x.1 x.2.1).trans e)) (.inl rfl)
end Go.Proofs.Ytbdcblpjemmipaa.Ex

namespace Go.Proofs.Ytbdcblpjemmipaa.Ex
open Go.Proofs Go.Proofs.Ytbdcblpjemmipaa
set_option maxRecDepth 100000
set_option maxHeartbeats 2000000
set_option linter.unusedVariables false
set_option linter.unusedSimpArgs false
def ash_flow_Do : List Sh := [.dat tU, .dat (.int .i64), .dat (.int .i64), .dat tE, .dat (.sl tEn)]
noncomputable def sp_flow_Do : Nat → Option (List AV → Prog AV)
  | 101 => some (con_itv_Of)
  | 102 => some (con_itv_All)
  | 35 => some (con_flow_Read)
  | 110 => some (con_num_Not)
  | 136 => some (con_itv_Refine)
  | 132 => some (con_itv_Meet)
  | 92 => some (con_itv_Empty)
  | 137 => some (con_env_None)
  | 131 => some (con_slices_Clone_Itv)
  | 48 => some (con_held_Has)
  | 135 => some (con_held_Without)
  | 133 => some (con_flow_deed_gains)
  | 134 => some (con_held_With)
  | 61 => some (con_itv_Leq)
  | 55 => some (con_itv_Join)
  | 129 => some (con_itv_Do)
  | _ => none
theorem hsp_flow_Do : ∀ g p, sp_flow_Do g = some p → SoundA Try.prog g p := by
  intro g p h
  unfold sp_flow_Do at h
  split at h
  · cases h; exact snd_itv_Of
  · cases h; exact snd_itv_All
  · cases h; exact snd_flow_Read
  · cases h; exact snd_num_Not
  · cases h; exact snd_itv_Refine
  · cases h; exact snd_itv_Meet
  · cases h; exact snd_itv_Empty
  · cases h; exact snd_env_None
  · cases h; exact snd_slices_Clone_Itv
  · cases h; exact snd_held_Has
  · cases h; exact snd_held_Without
  · cases h; exact snd_flow_deed_gains
  · cases h; exact snd_held_With
  · cases h; exact snd_itv_Leq
  · cases h; exact snd_itv_Join
  · cases h; exact snd_itv_Do
  · cases h
noncomputable def cx_flow_Do : Ctx := { tab := tab, spec := sp_flow_Do, inl := inl, lps := fun _ _ => none, fuel := 40 }
theorem in_flow_Do : InlOk Try.prog cx_flow_Do := ⟨inl_ok, fun _ _ _ _ _ _ _ _ h => nomatch h⟩
theorem cal_flow_Do (g : Nat) : SoundA Try.prog g (evF cx_flow_Do keeps 8 g) := evF_sound (tabOk_of tab_ok) (cmpsOk_of tab_ok cmps_ok) mixed in_flow_Do hsp_flow_Do keeps 8 g
noncomputable def g_flow_Do (a0 : U) (a1 : Int) (a2 : Int) (a3 : E) (a4 : (List En)) : Option O :=
  bif decide (0 ≤ a1) then
 optC a0.2.2.2[a1.toNat]? none fun d6 ↦
 bif decide (0 ≤ a2) then
 optC d6.2[a2.toNat]? none fun d7 ↦
 bif a3.1 then
 bif d7.1 == 1 then
 optC (G_itv_Of ([d7.2.2.2.2.2.1], ())) none fun d8 ↦
 bif decide (((List.length (α := I) []) + List.length a3.2.1 + 1) * 16 ≤ lim) then
 bif decide (0 ≤ d7.2.1) then
 optC ([] ++ a3.2.1)[Int.toNat d7.2.1]? none fun d9 ↦
 optC ([] ++ a3.2.1)[Int.toNat d7.2.1]? none fun d10 ↦
 some
 ((a3.1, ([] ++ a3.2.1).set (Int.toNat d7.2.1) d8, a3.2.2.1, a3.2.2.2.1, a3.2.2.2.2.1, a3.2.2.2.2.2), (false, [], [], [], 0, 0),
 [], [], [])
 else none
 else none
 else
 bif d7.1 == 2 then
 bif decide (0 ≤ d7.2.2.1) then
 optC a3.2.1[Int.toNat d7.2.2.1]? none fun d8 ↦
 bif decide (((List.length (α := I) []) + List.length a3.2.1 + 1) * 16 ≤ lim) then
 bif decide (0 ≤ d7.2.1) then
 optC ([] ++ a3.2.1)[Int.toNat d7.2.1]? none fun d9 ↦
 optC ([] ++ a3.2.1)[Int.toNat d7.2.1]? none fun d10 ↦
 some
 ((a3.1, ([] ++ a3.2.1).set (Int.toNat d7.2.1) d8, a3.2.2.1, a3.2.2.2.1, a3.2.2.2.2.1, a3.2.2.2.2.2),
 (false, [], [], [], 0, 0), [], [], [])
 else none
 else none
 else none
 else
 bif d7.1 == 3 then
 bif decide (((List.length (α := I) []) + List.length a3.2.1 + 1) * 16 ≤ lim) then
 bif decide (0 ≤ d7.2.1) then
 optC ([] ++ a3.2.1)[Int.toNat d7.2.1]? none fun d8 ↦
 optC ([] ++ a3.2.1)[Int.toNat d7.2.1]? none fun d9 ↦
 some
 ((a3.1, ([] ++ a3.2.1).set (Int.toNat d7.2.1) (-2147483648, 2147483647), a3.2.2.1, a3.2.2.2.1, a3.2.2.2.2.1, a3.2.2.2.2.2),
 (false, [], [], [], 0, 0), [], [], [])
 else none
 else none
 else
 bif d7.1 == 4 then
 bif decide (0 ≤ d7.2.2.1) then
 optC a3.2.1[Int.toNat d7.2.2.1]? none fun d8 ↦
 bif decide (0 ≤ d7.2.2.2.1) then
 optC a3.2.1[Int.toNat d7.2.2.2.1]? none fun d9 ↦
 optC (G_itv_Do (d7.2.2.2.2.2.2.1, d8, d9, ())) none fun d10 ↦
 bif d10.2.1 then
 bif d10.2.2.1 then
 bif !decide (d10.1.1 > d10.1.2) then
 bif decide (((List.length (α := I) []) + List.length a3.2.1 + 1) * 16 ≤ lim) then
 bif decide (0 ≤ d7.2.1) then
 optC ([] ++ a3.2.1)[Int.toNat d7.2.1]? none fun d11 ↦
 optC ([] ++ a3.2.1)[Int.toNat d7.2.1]? none fun d12 ↦
 some
 ((a3.1, ([] ++ a3.2.1).set (Int.toNat d7.2.1) d10.1, a3.2.2.1, a3.2.2.2.1, a3.2.2.2.2.1, a3.2.2.2.2.2),
 (false, [], [], [], 0, 0), [7, 8], [], [])
 else none
 else none
 else some ((false, [], [], [], 0, 0), (false, [], [], [], 0, 0), [7, 8], [], [])
 else
 bif !decide (d10.1.1 > d10.1.2) then
 bif decide (((List.length (α := I) []) + List.length a3.2.1 + 1) * 16 ≤ lim) then
 bif decide (0 ≤ d7.2.1) then
 optC ([] ++ a3.2.1)[Int.toNat d7.2.1]? none fun d11 ↦
 optC ([] ++ a3.2.1)[Int.toNat d7.2.1]? none fun d12 ↦
 some
 ((a3.1, ([] ++ a3.2.1).set (Int.toNat d7.2.1) d10.1, a3.2.2.1, a3.2.2.2.1, a3.2.2.2.2.1, a3.2.2.2.2.2),
 (false, [], [], [], 0, 0), [7], [], [])
 else none
 else none
 else some ((false, [], [], [], 0, 0), (false, [], [], [], 0, 0), [7], [], [])
 else
 bif d10.2.2.1 then
 bif !decide (d10.1.1 > d10.1.2) then
 bif decide (((List.length (α := I) []) + List.length a3.2.1 + 1) * 16 ≤ lim) then
 bif decide (0 ≤ d7.2.1) then
 optC ([] ++ a3.2.1)[Int.toNat d7.2.1]? none fun d11 ↦
 optC ([] ++ a3.2.1)[Int.toNat d7.2.1]? none fun d12 ↦
 some
 ((a3.1, ([] ++ a3.2.1).set (Int.toNat d7.2.1) d10.1, a3.2.2.1, a3.2.2.2.1, a3.2.2.2.2.1, a3.2.2.2.2.2),
 (false, [], [], [], 0, 0), [8], [], [])
 else none
 else none
 else some ((false, [], [], [], 0, 0), (false, [], [], [], 0, 0), [8], [], [])
 else
 bif !decide (d10.1.1 > d10.1.2) then
 bif decide (((List.length (α := I) []) + List.length a3.2.1 + 1) * 16 ≤ lim) then
 bif decide (0 ≤ d7.2.1) then
 optC ([] ++ a3.2.1)[Int.toNat d7.2.1]? none fun d11 ↦
 optC ([] ++ a3.2.1)[Int.toNat d7.2.1]? none fun d12 ↦
 some
 ((a3.1, ([] ++ a3.2.1).set (Int.toNat d7.2.1) d10.1, a3.2.2.1, a3.2.2.2.1, a3.2.2.2.2.1, a3.2.2.2.2.2),
 (false, [], [], [], 0, 0), [], [], [])
 else none
 else none
 else some ((false, [], [], [], 0, 0), (false, [], [], [], 0, 0), [], [], [])
 else none
 else none
 else
 bif d7.1 == 5 then
 optC (G_flow_Read (a0, a1, a3, a4, false, d7.2.2.2.2.1, ())) none fun d8 ↦
 bif decide (((List.length (α := I) []) + List.length a3.2.1 + 1) * 16 ≤ lim) then
 bif decide (0 ≤ d7.2.1) then
 optC ([] ++ a3.2.1)[Int.toNat d7.2.1]? none fun d9 ↦
 optC ([] ++ a3.2.1)[Int.toNat d7.2.1]? none fun d10 ↦
 some
 ((a3.1, ([] ++ a3.2.1).set (Int.toNat d7.2.1) d8, a3.2.2.1, a3.2.2.2.1, a3.2.2.2.2.1, a3.2.2.2.2.2),
 (false, [], [], [], 0, 0), [], [], [(a1, a2, false, d7.2.2.2.2.1, false, a3.2.2.2.2.1)])
 else none
 else none
 else
 bif d7.1 == 6 then
 bif decide (0 ≤ d7.2.2.1) then
 optC a3.2.1[Int.toNat d7.2.2.1]? none fun d8 ↦
 bif decide (((List.length (α := I) []) + List.length a3.2.2.1 + 1) * 16 ≤ lim) then
 bif decide (0 ≤ d7.2.2.2.2.1) then
 optC ([] ++ a3.2.2.1)[Int.toNat d7.2.2.2.2.1]? none fun d9 ↦
 optC ([] ++ a3.2.2.1)[Int.toNat d7.2.2.2.2.1]? none fun d10 ↦
 some
 ((a3.1, a3.2.1, ([] ++ a3.2.2.1).set (Int.toNat d7.2.2.2.2.1) d8, a3.2.2.2.1, a3.2.2.2.2.1, a3.2.2.2.2.2),
 (false, [], [], [], 0, 0), [], [(a1, false, d7.2.2.2.2.1, a3.2.2.2.2.1, d8.1, d8.2)],
 [(a1, a2, false, d7.2.2.2.2.1, true, a3.2.2.2.2.1)])
 else none
 else none
 else none
 else
 bif d7.1 == 7 then
 bif decide (0 ≤ d7.2.2.2.2.1) then
 optC a0.2.1[Int.toNat d7.2.2.2.2.1]? none fun d8 ↦
 bif decide (0 ≤ d7.2.2.1) then
 optC a3.2.1[Int.toNat d7.2.2.1]? none fun d9 ↦
 optC (G_itv_Leq (d9, (0, Go.IntKind.i64.wrap (d8 - 1)), ())) none fun d10 ↦
 bif !d10 then
 bif d7.1 == 8 then
 bif decide (0 ≤ d7.2.2.2.1) then
 optC a3.2.1[Int.toNat d7.2.2.2.1]? none fun d11 ↦
 optC (G_itv_Meet (d9, (0, Go.IntKind.i64.wrap (d8 - 1)), ())) none fun d12 ↦
 bif decide (d12.1 > d12.2) then
 some
 ((false, [], [], [], 0, 0), (false, [], [], [], 0, 0), [9],
 [(a1, true, d7.2.2.2.2.1, a3.2.2.2.2.1, d11.1, d11.2)],
 [(a1, a2, true, d7.2.2.2.2.1, d7.1 == 8, a3.2.2.2.2.1)])
 else
 bif decide (((List.length (α := I) []) + List.length a3.2.1 + 1) * 16 ≤ lim) then
 bif decide (0 ≤ d7.2.2.1) then
 optC ([] ++ a3.2.1)[Int.toNat d7.2.2.1]? none fun d13 ↦
 optC ([] ++ a3.2.1)[Int.toNat d7.2.2.1]? none fun d14 ↦
 bif !d7.1 == 8 then
 optC
 (G_flow_Read
 (a0, a1, (a3.1, ([] ++ a3.2.1).set (Int.toNat d7.2.2.1) d12, a3.2.2), a4, true, d7.2.2.2.2.1, ()))
 none fun d15 ↦
 bif decide (((List.length (α := I) []) + (([] ++ a3.2.1).set (Int.toNat d7.2.2.1) d12).length + 1) * 16 ≤ lim) then
 bif decide (0 ≤ d7.2.1) then
 optC ([] ++ ([] ++ a3.2.1).set (Int.toNat d7.2.2.1) d12)[Int.toNat d7.2.1]? none fun d16 ↦
 optC ([] ++ ([] ++ a3.2.1).set (Int.toNat d7.2.2.1) d12)[Int.toNat d7.2.1]? none fun d17 ↦
 some
 ((a3.1, ([] ++ ([] ++ a3.2.1).set (Int.toNat d7.2.2.1) d12).set (Int.toNat d7.2.1) d15, a3.2.2.1,
 a3.2.2.2.1, a3.2.2.2.2.1, a3.2.2.2.2.2),
 (false, [], [], [], 0, 0), [9], [(a1, true, d7.2.2.2.2.1, a3.2.2.2.2.1, d11.1, d11.2)],
 [(a1, a2, true, d7.2.2.2.2.1, d7.1 == 8, a3.2.2.2.2.1)])
 else none
 else none
 else
 bif decide (((List.length (α := I) []) + List.length a3.2.2.2.1 + 1) * 16 ≤ lim) then
 bif decide (0 ≤ d7.2.2.2.2.1) then
 optC ([] ++ a3.2.2.2.1)[Int.toNat d7.2.2.2.2.1]? none fun d15 ↦
 optC ([] ++ a3.2.2.2.1)[Int.toNat d7.2.2.2.2.1]? none fun d16 ↦
 bif decide (0 ≤ d7.2.2.2.1) then
 optC (([] ++ a3.2.1).set (Int.toNat d7.2.2.1) d12)[Int.toNat d7.2.2.2.1]? none fun d17 ↦
 optC (([] ++ a3.2.1).set (Int.toNat d7.2.2.1) d12)[Int.toNat d7.2.2.2.1]? none fun d18 ↦
 optC (G_itv_Join ([d16, d18], ())) none fun d19 ↦
 bif decide (0 ≤ d7.2.2.2.2.1) then
 optC ([] ++ a3.2.2.2.1)[Int.toNat d7.2.2.2.2.1]? none fun d20 ↦
 optC ([] ++ a3.2.2.2.1)[Int.toNat d7.2.2.2.2.1]? none fun d21 ↦
 some
 ((a3.1, ([] ++ a3.2.1).set (Int.toNat d7.2.2.1) d12, a3.2.2.1,
 ([] ++ a3.2.2.2.1).set (Int.toNat d7.2.2.2.2.1) d19, a3.2.2.2.2.1,
 a3.2.2.2.2.2),
 (false, [], [], [], 0, 0), [9],
 [(a1, true, d7.2.2.2.2.1, a3.2.2.2.2.1, d11.1, d11.2)],
 [(a1, a2, true, d7.2.2.2.2.1, d7.1 == 8, a3.2.2.2.2.1)])
 else none
 else none
 else none
 else none
 else none
 else none
 else none
 else
 optC (G_itv_Meet (d9, (0, Go.IntKind.i64.wrap (d8 - 1)), ())) none fun d11 ↦
 bif decide (d11.1 > d11.2) then
 some
 ((false, [], [], [], 0, 0), (false, [], [], [], 0, 0), [9], [],
 [(a1, a2, true, d7.2.2.2.2.1, d7.1 == 8, a3.2.2.2.2.1)])
 else
 bif decide (((List.length (α := I) []) + List.length a3.2.1 + 1) * 16 ≤ lim) then
 bif decide (0 ≤ d7.2.2.1) then
 optC ([] ++ a3.2.1)[Int.toNat d7.2.2.1]? none fun d12 ↦
 optC ([] ++ a3.2.1)[Int.toNat d7.2.2.1]? none fun d13 ↦
 bif !d7.1 == 8 then
 optC
 (G_flow_Read
 (a0, a1, (a3.1, ([] ++ a3.2.1).set (Int.toNat d7.2.2.1) d11, a3.2.2), a4, true, d7.2.2.2.2.1, ()))
 none fun d14 ↦
 bif decide (((List.length (α := I) []) + (([] ++ a3.2.1).set (Int.toNat d7.2.2.1) d11).length + 1) * 16 ≤ lim) then
 bif decide (0 ≤ d7.2.1) then
 optC ([] ++ ([] ++ a3.2.1).set (Int.toNat d7.2.2.1) d11)[Int.toNat d7.2.1]? none fun d15 ↦
 optC ([] ++ ([] ++ a3.2.1).set (Int.toNat d7.2.2.1) d11)[Int.toNat d7.2.1]? none fun d16 ↦
 some
 ((a3.1, ([] ++ ([] ++ a3.2.1).set (Int.toNat d7.2.2.1) d11).set (Int.toNat d7.2.1) d14, a3.2.2.1,
 a3.2.2.2.1, a3.2.2.2.2.1, a3.2.2.2.2.2),
 (false, [], [], [], 0, 0), [9], [], [(a1, a2, true, d7.2.2.2.2.1, d7.1 == 8, a3.2.2.2.2.1)])
 else none
 else none
 else
 bif decide (((List.length (α := I) []) + List.length a3.2.2.2.1 + 1) * 16 ≤ lim) then
 bif decide (0 ≤ d7.2.2.2.2.1) then
 optC ([] ++ a3.2.2.2.1)[Int.toNat d7.2.2.2.2.1]? none fun d14 ↦
 optC ([] ++ a3.2.2.2.1)[Int.toNat d7.2.2.2.2.1]? none fun d15 ↦
 bif decide (0 ≤ d7.2.2.2.1) then
 optC (([] ++ a3.2.1).set (Int.toNat d7.2.2.1) d11)[Int.toNat d7.2.2.2.1]? none fun d16 ↦
 optC (([] ++ a3.2.1).set (Int.toNat d7.2.2.1) d11)[Int.toNat d7.2.2.2.1]? none fun d17 ↦
 optC (G_itv_Join ([d15, d17], ())) none fun d18 ↦
 bif decide (0 ≤ d7.2.2.2.2.1) then
 optC ([] ++ a3.2.2.2.1)[Int.toNat d7.2.2.2.2.1]? none fun d19 ↦
 optC ([] ++ a3.2.2.2.1)[Int.toNat d7.2.2.2.2.1]? none fun d20 ↦
 some
 ((a3.1, ([] ++ a3.2.1).set (Int.toNat d7.2.2.1) d11, a3.2.2.1,
 ([] ++ a3.2.2.2.1).set (Int.toNat d7.2.2.2.2.1) d18, a3.2.2.2.2.1, a3.2.2.2.2.2),
 (false, [], [], [], 0, 0), [9], [],
 [(a1, a2, true, d7.2.2.2.2.1, d7.1 == 8, a3.2.2.2.2.1)])
 else none
 else none
 else none
 else none
 else none
 else none
 else
 bif d7.1 == 8 then
 bif decide (0 ≤ d7.2.2.2.1) then
 optC a3.2.1[Int.toNat d7.2.2.2.1]? none fun d11 ↦
 optC (G_itv_Meet (d9, (0, Go.IntKind.i64.wrap (d8 - 1)), ())) none fun d12 ↦
 bif decide (d12.1 > d12.2) then
 some
 ((false, [], [], [], 0, 0), (false, [], [], [], 0, 0), [],
 [(a1, true, d7.2.2.2.2.1, a3.2.2.2.2.1, d11.1, d11.2)],
 [(a1, a2, true, d7.2.2.2.2.1, d7.1 == 8, a3.2.2.2.2.1)])
 else
 bif decide (((List.length (α := I) []) + List.length a3.2.1 + 1) * 16 ≤ lim) then
 bif decide (0 ≤ d7.2.2.1) then
 optC ([] ++ a3.2.1)[Int.toNat d7.2.2.1]? none fun d13 ↦
 optC ([] ++ a3.2.1)[Int.toNat d7.2.2.1]? none fun d14 ↦
 bif !d7.1 == 8 then
 optC
 (G_flow_Read
 (a0, a1, (a3.1, ([] ++ a3.2.1).set (Int.toNat d7.2.2.1) d12, a3.2.2), a4, true, d7.2.2.2.2.1, ()))
 none fun d15 ↦
 bif decide (((List.length (α := I) []) + (([] ++ a3.2.1).set (Int.toNat d7.2.2.1) d12).length + 1) * 16 ≤ lim) then
 bif decide (0 ≤ d7.2.1) then
 optC ([] ++ ([] ++ a3.2.1).set (Int.toNat d7.2.2.1) d12)[Int.toNat d7.2.1]? none fun d16 ↦
 optC ([] ++ ([] ++ a3.2.1).set (Int.toNat d7.2.2.1) d12)[Int.toNat d7.2.1]? none fun d17 ↦
 some
 ((a3.1, ([] ++ ([] ++ a3.2.1).set (Int.toNat d7.2.2.1) d12).set (Int.toNat d7.2.1) d15, a3.2.2.1,
 a3.2.2.2.1, a3.2.2.2.2.1, a3.2.2.2.2.2),
 (false, [], [], [], 0, 0), [], [(a1, true, d7.2.2.2.2.1, a3.2.2.2.2.1, d11.1, d11.2)],
 [(a1, a2, true, d7.2.2.2.2.1, d7.1 == 8, a3.2.2.2.2.1)])
 else none
 else none
 else
 bif decide (((List.length (α := I) []) + List.length a3.2.2.2.1 + 1) * 16 ≤ lim) then
 bif decide (0 ≤ d7.2.2.2.2.1) then
 optC ([] ++ a3.2.2.2.1)[Int.toNat d7.2.2.2.2.1]? none fun d15 ↦
 optC ([] ++ a3.2.2.2.1)[Int.toNat d7.2.2.2.2.1]? none fun d16 ↦
 bif decide (0 ≤ d7.2.2.2.1) then
 optC (([] ++ a3.2.1).set (Int.toNat d7.2.2.1) d12)[Int.toNat d7.2.2.2.1]? none fun d17 ↦
 optC (([] ++ a3.2.1).set (Int.toNat d7.2.2.1) d12)[Int.toNat d7.2.2.2.1]? none fun d18 ↦
 optC (G_itv_Join ([d16, d18], ())) none fun d19 ↦
 bif decide (0 ≤ d7.2.2.2.2.1) then
 optC ([] ++ a3.2.2.2.1)[Int.toNat d7.2.2.2.2.1]? none fun d20 ↦
 optC ([] ++ a3.2.2.2.1)[Int.toNat d7.2.2.2.2.1]? none fun d21 ↦
 some
 ((a3.1, ([] ++ a3.2.1).set (Int.toNat d7.2.2.1) d12, a3.2.2.1,
 ([] ++ a3.2.2.2.1).set (Int.toNat d7.2.2.2.2.1) d19, a3.2.2.2.2.1,
 a3.2.2.2.2.2),
 (false, [], [], [], 0, 0), [],
 [(a1, true, d7.2.2.2.2.1, a3.2.2.2.2.1, d11.1, d11.2)],
 [(a1, a2, true, d7.2.2.2.2.1, d7.1 == 8, a3.2.2.2.2.1)])
 else none
 else none
 else none
 else none
 else none
 else none
 else none
 else
 optC (G_itv_Meet (d9, (0, Go.IntKind.i64.wrap (d8 - 1)), ())) none fun d11 ↦
 bif decide (d11.1 > d11.2) then
 some
 ((false, [], [], [], 0, 0), (false, [], [], [], 0, 0), [], [], [(a1, a2, true, d7.2.2.2.2.1, d7.1 == 8, a3.2.2.2.2.1)])
 else
 bif decide (((List.length (α := I) []) + List.length a3.2.1 + 1) * 16 ≤ lim) then
 bif decide (0 ≤ d7.2.2.1) then
 optC ([] ++ a3.2.1)[Int.toNat d7.2.2.1]? none fun d12 ↦
 optC ([] ++ a3.2.1)[Int.toNat d7.2.2.1]? none fun d13 ↦
 bif !d7.1 == 8 then
 optC
 (G_flow_Read
 (a0, a1, (a3.1, ([] ++ a3.2.1).set (Int.toNat d7.2.2.1) d11, a3.2.2), a4, true, d7.2.2.2.2.1, ()))
 none fun d14 ↦
 bif decide (((List.length (α := I) []) + (([] ++ a3.2.1).set (Int.toNat d7.2.2.1) d11).length + 1) * 16 ≤ lim) then
 bif decide (0 ≤ d7.2.1) then
 optC ([] ++ ([] ++ a3.2.1).set (Int.toNat d7.2.2.1) d11)[Int.toNat d7.2.1]? none fun d15 ↦
 optC ([] ++ ([] ++ a3.2.1).set (Int.toNat d7.2.2.1) d11)[Int.toNat d7.2.1]? none fun d16 ↦
 some
 ((a3.1, ([] ++ ([] ++ a3.2.1).set (Int.toNat d7.2.2.1) d11).set (Int.toNat d7.2.1) d14, a3.2.2.1,
 a3.2.2.2.1, a3.2.2.2.2.1, a3.2.2.2.2.2),
 (false, [], [], [], 0, 0), [], [], [(a1, a2, true, d7.2.2.2.2.1, d7.1 == 8, a3.2.2.2.2.1)])
 else none
 else none
 else
 bif decide (((List.length (α := I) []) + List.length a3.2.2.2.1 + 1) * 16 ≤ lim) then
 bif decide (0 ≤ d7.2.2.2.2.1) then
 optC ([] ++ a3.2.2.2.1)[Int.toNat d7.2.2.2.2.1]? none fun d14 ↦
 optC ([] ++ a3.2.2.2.1)[Int.toNat d7.2.2.2.2.1]? none fun d15 ↦
 bif decide (0 ≤ d7.2.2.2.1) then
 optC (([] ++ a3.2.1).set (Int.toNat d7.2.2.1) d11)[Int.toNat d7.2.2.2.1]? none fun d16 ↦
 optC (([] ++ a3.2.1).set (Int.toNat d7.2.2.1) d11)[Int.toNat d7.2.2.2.1]? none fun d17 ↦
 optC (G_itv_Join ([d15, d17], ())) none fun d18 ↦
 bif decide (0 ≤ d7.2.2.2.2.1) then
 optC ([] ++ a3.2.2.2.1)[Int.toNat d7.2.2.2.2.1]? none fun d19 ↦
 optC ([] ++ a3.2.2.2.1)[Int.toNat d7.2.2.2.2.1]? none fun d20 ↦
 some
 ((a3.1, ([] ++ a3.2.1).set (Int.toNat d7.2.2.1) d11, a3.2.2.1,
 ([] ++ a3.2.2.2.1).set (Int.toNat d7.2.2.2.2.1) d18, a3.2.2.2.2.1, a3.2.2.2.2.2),
 (false, [], [], [], 0, 0), [], [],
 [(a1, a2, true, d7.2.2.2.2.1, d7.1 == 8, a3.2.2.2.2.1)])
 else none
 else none
 else none
 else none
 else none
 else none
 else none
 else none
 else
 bif d7.1 == 8 then
 bif decide (0 ≤ d7.2.2.2.2.1) then
 optC a0.2.1[Int.toNat d7.2.2.2.2.1]? none fun d8 ↦
 bif decide (0 ≤ d7.2.2.1) then
 optC a3.2.1[Int.toNat d7.2.2.1]? none fun d9 ↦
 optC (G_itv_Leq (d9, (0, Go.IntKind.i64.wrap (d8 - 1)), ())) none fun d10 ↦
 bif !d10 then
 bif d7.1 == 8 then
 bif decide (0 ≤ d7.2.2.2.1) then
 optC a3.2.1[Int.toNat d7.2.2.2.1]? none fun d11 ↦
 optC (G_itv_Meet (d9, (0, Go.IntKind.i64.wrap (d8 - 1)), ())) none fun d12 ↦
 bif decide (d12.1 > d12.2) then
 some
 ((false, [], [], [], 0, 0), (false, [], [], [], 0, 0), [9],
 [(a1, true, d7.2.2.2.2.1, a3.2.2.2.2.1, d11.1, d11.2)],
 [(a1, a2, true, d7.2.2.2.2.1, d7.1 == 8, a3.2.2.2.2.1)])
 else
 bif decide (((List.length (α := I) []) + List.length a3.2.1 + 1) * 16 ≤ lim) then
 bif decide (0 ≤ d7.2.2.1) then
 optC ([] ++ a3.2.1)[Int.toNat d7.2.2.1]? none fun d13 ↦
 optC ([] ++ a3.2.1)[Int.toNat d7.2.2.1]? none fun d14 ↦
 bif !d7.1 == 8 then
 optC
 (G_flow_Read
 (a0, a1, (a3.1, ([] ++ a3.2.1).set (Int.toNat d7.2.2.1) d12, a3.2.2), a4, true, d7.2.2.2.2.1, ()))
 none fun d15 ↦
 bif decide (((List.length (α := I) []) + (([] ++ a3.2.1).set (Int.toNat d7.2.2.1) d12).length + 1) * 16 ≤ lim) then
 bif decide (0 ≤ d7.2.1) then
 optC ([] ++ ([] ++ a3.2.1).set (Int.toNat d7.2.2.1) d12)[Int.toNat d7.2.1]? none fun d16 ↦
 optC ([] ++ ([] ++ a3.2.1).set (Int.toNat d7.2.2.1) d12)[Int.toNat d7.2.1]? none fun d17 ↦
 some
 ((a3.1, ([] ++ ([] ++ a3.2.1).set (Int.toNat d7.2.2.1) d12).set (Int.toNat d7.2.1) d15, a3.2.2.1,
 a3.2.2.2.1, a3.2.2.2.2.1, a3.2.2.2.2.2),
 (false, [], [], [], 0, 0), [9], [(a1, true, d7.2.2.2.2.1, a3.2.2.2.2.1, d11.1, d11.2)],
 [(a1, a2, true, d7.2.2.2.2.1, d7.1 == 8, a3.2.2.2.2.1)])
 else none
 else none
 else
 bif decide (((List.length (α := I) []) + List.length a3.2.2.2.1 + 1) * 16 ≤ lim) then
 bif decide (0 ≤ d7.2.2.2.2.1) then
 optC ([] ++ a3.2.2.2.1)[Int.toNat d7.2.2.2.2.1]? none fun d15 ↦
 optC ([] ++ a3.2.2.2.1)[Int.toNat d7.2.2.2.2.1]? none fun d16 ↦
 bif decide (0 ≤ d7.2.2.2.1) then
 optC (([] ++ a3.2.1).set (Int.toNat d7.2.2.1) d12)[Int.toNat d7.2.2.2.1]? none fun d17 ↦
 optC (([] ++ a3.2.1).set (Int.toNat d7.2.2.1) d12)[Int.toNat d7.2.2.2.1]? none fun d18 ↦
 optC (G_itv_Join ([d16, d18], ())) none fun d19 ↦
 bif decide (0 ≤ d7.2.2.2.2.1) then
 optC ([] ++ a3.2.2.2.1)[Int.toNat d7.2.2.2.2.1]? none fun d20 ↦
 optC ([] ++ a3.2.2.2.1)[Int.toNat d7.2.2.2.2.1]? none fun d21 ↦
 some
 ((a3.1, ([] ++ a3.2.1).set (Int.toNat d7.2.2.1) d12, a3.2.2.1,
 ([] ++ a3.2.2.2.1).set (Int.toNat d7.2.2.2.2.1) d19, a3.2.2.2.2.1,
 a3.2.2.2.2.2),
 (false, [], [], [], 0, 0), [9],
 [(a1, true, d7.2.2.2.2.1, a3.2.2.2.2.1, d11.1, d11.2)],
 [(a1, a2, true, d7.2.2.2.2.1, d7.1 == 8, a3.2.2.2.2.1)])
 else none
 else none
 else none
 else none
 else none
 else none
 else none
 else
 optC (G_itv_Meet (d9, (0, Go.IntKind.i64.wrap (d8 - 1)), ())) none fun d11 ↦
 bif decide (d11.1 > d11.2) then
 some
 ((false, [], [], [], 0, 0), (false, [], [], [], 0, 0), [9], [],
 [(a1, a2, true, d7.2.2.2.2.1, d7.1 == 8, a3.2.2.2.2.1)])
 else
 bif decide (((List.length (α := I) []) + List.length a3.2.1 + 1) * 16 ≤ lim) then
 bif decide (0 ≤ d7.2.2.1) then
 optC ([] ++ a3.2.1)[Int.toNat d7.2.2.1]? none fun d12 ↦
 optC ([] ++ a3.2.1)[Int.toNat d7.2.2.1]? none fun d13 ↦
 bif !d7.1 == 8 then
 optC
 (G_flow_Read
 (a0, a1, (a3.1, ([] ++ a3.2.1).set (Int.toNat d7.2.2.1) d11, a3.2.2), a4, true, d7.2.2.2.2.1, ()))
 none fun d14 ↦
 bif decide (((List.length (α := I) []) + (([] ++ a3.2.1).set (Int.toNat d7.2.2.1) d11).length + 1) * 16 ≤ lim) then
 bif decide (0 ≤ d7.2.1) then
 optC ([] ++ ([] ++ a3.2.1).set (Int.toNat d7.2.2.1) d11)[Int.toNat d7.2.1]? none fun d15 ↦
 optC ([] ++ ([] ++ a3.2.1).set (Int.toNat d7.2.2.1) d11)[Int.toNat d7.2.1]? none fun d16 ↦
 some
 ((a3.1, ([] ++ ([] ++ a3.2.1).set (Int.toNat d7.2.2.1) d11).set (Int.toNat d7.2.1) d14, a3.2.2.1,
 a3.2.2.2.1, a3.2.2.2.2.1, a3.2.2.2.2.2),
 (false, [], [], [], 0, 0), [9], [], [(a1, a2, true, d7.2.2.2.2.1, d7.1 == 8, a3.2.2.2.2.1)])
 else none
 else none
 else
 bif decide (((List.length (α := I) []) + List.length a3.2.2.2.1 + 1) * 16 ≤ lim) then
 bif decide (0 ≤ d7.2.2.2.2.1) then
 optC ([] ++ a3.2.2.2.1)[Int.toNat d7.2.2.2.2.1]? none fun d14 ↦
 optC ([] ++ a3.2.2.2.1)[Int.toNat d7.2.2.2.2.1]? none fun d15 ↦
 bif decide (0 ≤ d7.2.2.2.1) then
 optC (([] ++ a3.2.1).set (Int.toNat d7.2.2.1) d11)[Int.toNat d7.2.2.2.1]? none fun d16 ↦
 optC (([] ++ a3.2.1).set (Int.toNat d7.2.2.1) d11)[Int.toNat d7.2.2.2.1]? none fun d17 ↦
 optC (G_itv_Join ([d15, d17], ())) none fun d18 ↦
 bif decide (0 ≤ d7.2.2.2.2.1) then
 optC ([] ++ a3.2.2.2.1)[Int.toNat d7.2.2.2.2.1]? none fun d19 ↦
 optC ([] ++ a3.2.2.2.1)[Int.toNat d7.2.2.2.2.1]? none fun d20 ↦
 some
 ((a3.1, ([] ++ a3.2.1).set (Int.toNat d7.2.2.1) d11, a3.2.2.1,
 ([] ++ a3.2.2.2.1).set (Int.toNat d7.2.2.2.2.1) d18, a3.2.2.2.2.1,
 a3.2.2.2.2.2),
 (false, [], [], [], 0, 0), [9], [],
 [(a1, a2, true, d7.2.2.2.2.1, d7.1 == 8, a3.2.2.2.2.1)])
 else none
 else none
 else none
 else none
 else none
 else none
 else
 bif d7.1 == 8 then
 bif decide (0 ≤ d7.2.2.2.1) then
 optC a3.2.1[Int.toNat d7.2.2.2.1]? none fun d11 ↦
 optC (G_itv_Meet (d9, (0, Go.IntKind.i64.wrap (d8 - 1)), ())) none fun d12 ↦
 bif decide (d12.1 > d12.2) then
 some
 ((false, [], [], [], 0, 0), (false, [], [], [], 0, 0), [],
 [(a1, true, d7.2.2.2.2.1, a3.2.2.2.2.1, d11.1, d11.2)],
 [(a1, a2, true, d7.2.2.2.2.1, d7.1 == 8, a3.2.2.2.2.1)])
 else
 bif decide (((List.length (α := I) []) + List.length a3.2.1 + 1) * 16 ≤ lim) then
 bif decide (0 ≤ d7.2.2.1) then
 optC ([] ++ a3.2.1)[Int.toNat d7.2.2.1]? none fun d13 ↦
 optC ([] ++ a3.2.1)[Int.toNat d7.2.2.1]? none fun d14 ↦
 bif !d7.1 == 8 then
 optC
 (G_flow_Read
 (a0, a1, (a3.1, ([] ++ a3.2.1).set (Int.toNat d7.2.2.1) d12, a3.2.2), a4, true, d7.2.2.2.2.1, ()))
 none fun d15 ↦
 bif decide (((List.length (α := I) []) + (([] ++ a3.2.1).set (Int.toNat d7.2.2.1) d12).length + 1) * 16 ≤ lim) then
 bif decide (0 ≤ d7.2.1) then
 optC ([] ++ ([] ++ a3.2.1).set (Int.toNat d7.2.2.1) d12)[Int.toNat d7.2.1]? none fun d16 ↦
 optC ([] ++ ([] ++ a3.2.1).set (Int.toNat d7.2.2.1) d12)[Int.toNat d7.2.1]? none fun d17 ↦
 some
 ((a3.1, ([] ++ ([] ++ a3.2.1).set (Int.toNat d7.2.2.1) d12).set (Int.toNat d7.2.1) d15, a3.2.2.1,
 a3.2.2.2.1, a3.2.2.2.2.1, a3.2.2.2.2.2),
 (false, [], [], [], 0, 0), [], [(a1, true, d7.2.2.2.2.1, a3.2.2.2.2.1, d11.1, d11.2)],
 [(a1, a2, true, d7.2.2.2.2.1, d7.1 == 8, a3.2.2.2.2.1)])
 else none
 else none
 else
 bif decide (((List.length (α := I) []) + List.length a3.2.2.2.1 + 1) * 16 ≤ lim) then
 bif decide (0 ≤ d7.2.2.2.2.1) then
 optC ([] ++ a3.2.2.2.1)[Int.toNat d7.2.2.2.2.1]? none fun d15 ↦
 optC ([] ++ a3.2.2.2.1)[Int.toNat d7.2.2.2.2.1]? none fun d16 ↦
 bif decide (0 ≤ d7.2.2.2.1) then
 optC (([] ++ a3.2.1).set (Int.toNat d7.2.2.1) d12)[Int.toNat d7.2.2.2.1]? none fun d17 ↦
 optC (([] ++ a3.2.1).set (Int.toNat d7.2.2.1) d12)[Int.toNat d7.2.2.2.1]? none fun d18 ↦
 optC (G_itv_Join ([d16, d18], ())) none fun d19 ↦
 bif decide (0 ≤ d7.2.2.2.2.1) then
 optC ([] ++ a3.2.2.2.1)[Int.toNat d7.2.2.2.2.1]? none fun d20 ↦
 optC ([] ++ a3.2.2.2.1)[Int.toNat d7.2.2.2.2.1]? none fun d21 ↦
 some
 ((a3.1, ([] ++ a3.2.1).set (Int.toNat d7.2.2.1) d12, a3.2.2.1,
 ([] ++ a3.2.2.2.1).set (Int.toNat d7.2.2.2.2.1) d19, a3.2.2.2.2.1,
 a3.2.2.2.2.2),
 (false, [], [], [], 0, 0), [],
 [(a1, true, d7.2.2.2.2.1, a3.2.2.2.2.1, d11.1, d11.2)],
 [(a1, a2, true, d7.2.2.2.2.1, d7.1 == 8, a3.2.2.2.2.1)])
 else none
 else none
 else none
 else none
 else none
 else none
 else none
 else
 optC (G_itv_Meet (d9, (0, Go.IntKind.i64.wrap (d8 - 1)), ())) none fun d11 ↦
 bif decide (d11.1 > d11.2) then
 some
 ((false, [], [], [], 0, 0), (false, [], [], [], 0, 0), [], [],
 [(a1, a2, true, d7.2.2.2.2.1, d7.1 == 8, a3.2.2.2.2.1)])
 else
 bif decide (((List.length (α := I) []) + List.length a3.2.1 + 1) * 16 ≤ lim) then
 bif decide (0 ≤ d7.2.2.1) then
 optC ([] ++ a3.2.1)[Int.toNat d7.2.2.1]? none fun d12 ↦
 optC ([] ++ a3.2.1)[Int.toNat d7.2.2.1]? none fun d13 ↦
 bif !d7.1 == 8 then
 optC
 (G_flow_Read
 (a0, a1, (a3.1, ([] ++ a3.2.1).set (Int.toNat d7.2.2.1) d11, a3.2.2), a4, true, d7.2.2.2.2.1, ()))
 none fun d14 ↦
 bif decide (((List.length (α := I) []) + (([] ++ a3.2.1).set (Int.toNat d7.2.2.1) d11).length + 1) * 16 ≤ lim) then
 bif decide (0 ≤ d7.2.1) then
 optC ([] ++ ([] ++ a3.2.1).set (Int.toNat d7.2.2.1) d11)[Int.toNat d7.2.1]? none fun d15 ↦
 optC ([] ++ ([] ++ a3.2.1).set (Int.toNat d7.2.2.1) d11)[Int.toNat d7.2.1]? none fun d16 ↦
 some
 ((a3.1, ([] ++ ([] ++ a3.2.1).set (Int.toNat d7.2.2.1) d11).set (Int.toNat d7.2.1) d14, a3.2.2.1,
 a3.2.2.2.1, a3.2.2.2.2.1, a3.2.2.2.2.2),
 (false, [], [], [], 0, 0), [], [], [(a1, a2, true, d7.2.2.2.2.1, d7.1 == 8, a3.2.2.2.2.1)])
 else none
 else none
 else
 bif decide (((List.length (α := I) []) + List.length a3.2.2.2.1 + 1) * 16 ≤ lim) then
 bif decide (0 ≤ d7.2.2.2.2.1) then
 optC ([] ++ a3.2.2.2.1)[Int.toNat d7.2.2.2.2.1]? none fun d14 ↦
 optC ([] ++ a3.2.2.2.1)[Int.toNat d7.2.2.2.2.1]? none fun d15 ↦
 bif decide (0 ≤ d7.2.2.2.1) then
 optC (([] ++ a3.2.1).set (Int.toNat d7.2.2.1) d11)[Int.toNat d7.2.2.2.1]? none fun d16 ↦
 optC (([] ++ a3.2.1).set (Int.toNat d7.2.2.1) d11)[Int.toNat d7.2.2.2.1]? none fun d17 ↦
 optC (G_itv_Join ([d15, d17], ())) none fun d18 ↦
 bif decide (0 ≤ d7.2.2.2.2.1) then
 optC ([] ++ a3.2.2.2.1)[Int.toNat d7.2.2.2.2.1]? none fun d19 ↦
 optC ([] ++ a3.2.2.2.1)[Int.toNat d7.2.2.2.2.1]? none fun d20 ↦
 some
 ((a3.1, ([] ++ a3.2.1).set (Int.toNat d7.2.2.1) d11, a3.2.2.1,
 ([] ++ a3.2.2.2.1).set (Int.toNat d7.2.2.2.2.1) d18, a3.2.2.2.2.1,
 a3.2.2.2.2.2),
 (false, [], [], [], 0, 0), [], [],
 [(a1, a2, true, d7.2.2.2.2.1, d7.1 == 8, a3.2.2.2.2.1)])
 else none
 else none
 else none
 else none
 else none
 else none
 else none
 else none
 else
 bif d7.1 == 9 then
 optC (G_held_Has (a3.2.2.2.2.2, d7.2.2.2.2.1, ())) none fun d8 ↦
 bif d8 then
 optC (G_held_Has (a3.2.2.2.2.1, d7.2.2.2.2.1, ())) none fun d9 ↦
 bif d9 then some ((false, [], [], [], 0, 0), (false, [], [], [], 0, 0), [11], [], [])
 else
 optC
 (G_flow_deed_gains
 ((d7.1, d7.2.1, d7.2.2.1, d7.2.2.2.1, d7.2.2.2.2.1, d7.2.2.2.2.2.1, d7.2.2.2.2.2.2.1,
 d7.2.2.2.2.2.2.2.1, d7.2.2.2.2.2.2.2.2, a0.1, a0.2.1, a0.2.2.1, a0.2.2.2, a1, a2, a3.1, a3.2.1,
 a3.2.2.1, a3.2.2.2.1, a3.2.2.2.2.1, a3.2.2.2.2.2, a4, false, [], [], [], 0, 0, false, [], [], [], 0, 0, [11],
 [], [], ()),
 a3.2.2.1, false, ()))
 none fun d10 ↦
 optC
 (G_flow_deed_gains
 ((d7.1, d7.2.1, d7.2.2.1, d7.2.2.2.1, d7.2.2.2.2.1, d7.2.2.2.2.2.1, d7.2.2.2.2.2.2.1,
 d7.2.2.2.2.2.2.2.1, d7.2.2.2.2.2.2.2.2, a0.1, a0.2.1, a0.2.2.1, a0.2.2.2, a1, a2, a3.1, a3.2.1,
 a3.2.2.1, a3.2.2.2.1, a3.2.2.2.2.1, a3.2.2.2.2.2, a4, false, [], [], [], 0, 0, false, [], [], [], 0, 0, [11],
 [], [], ()),
 a3.2.2.2.1, true, ()))
 none fun d11 ↦
 optC (G_held_With (a3.2.2.2.2.1, [d7.2.2.2.2.1], ())) none fun d12 ↦
 optC (G_held_With (a3.2.2.2.2.2, [d7.2.2.2.2.1], ())) none fun d13 ↦
 some ((a3.1, a3.2.1, d10, d11, d12, d13), (false, [], [], [], 0, 0), [11], [], [])
 else
 optC (G_held_Has (a3.2.2.2.2.1, d7.2.2.2.2.1, ())) none fun d9 ↦
 bif d9 then some ((false, [], [], [], 0, 0), (false, [], [], [], 0, 0), [], [], [])
 else
 optC
 (G_flow_deed_gains
 ((d7.1, d7.2.1, d7.2.2.1, d7.2.2.2.1, d7.2.2.2.2.1, d7.2.2.2.2.2.1, d7.2.2.2.2.2.2.1,
 d7.2.2.2.2.2.2.2.1, d7.2.2.2.2.2.2.2.2, a0.1, a0.2.1, a0.2.2.1, a0.2.2.2, a1, a2, a3.1, a3.2.1,
 a3.2.2.1, a3.2.2.2.1, a3.2.2.2.2.1, a3.2.2.2.2.2, a4, false, [], [], [], 0, 0, false, [], [], [], 0, 0, [], [],
 [], ()),
 a3.2.2.1, false, ()))
 none fun d10 ↦
 optC
 (G_flow_deed_gains
 ((d7.1, d7.2.1, d7.2.2.1, d7.2.2.2.1, d7.2.2.2.2.1, d7.2.2.2.2.2.1, d7.2.2.2.2.2.2.1,
 d7.2.2.2.2.2.2.2.1, d7.2.2.2.2.2.2.2.2, a0.1, a0.2.1, a0.2.2.1, a0.2.2.2, a1, a2, a3.1, a3.2.1,
 a3.2.2.1, a3.2.2.2.1, a3.2.2.2.2.1, a3.2.2.2.2.2, a4, false, [], [], [], 0, 0, false, [], [], [], 0, 0, [],
 [], [], ()),
 a3.2.2.2.1, true, ()))
 none fun d11 ↦
 optC (G_held_With (a3.2.2.2.2.1, [d7.2.2.2.2.1], ())) none fun d12 ↦
 optC (G_held_With (a3.2.2.2.2.2, [d7.2.2.2.2.1], ())) none fun d13 ↦
 some ((a3.1, a3.2.1, d10, d11, d12, d13), (false, [], [], [], 0, 0), [], [], [])
 else
 bif d7.1 == 10 then
 optC (G_held_Has (a3.2.2.2.2.1, d7.2.2.2.2.1, ())) none fun d8 ↦
 bif !d8 then
 optC (G_held_Has (a3.2.2.2.2.2, d7.2.2.2.2.1, ())) none fun d9 ↦
 bif !d9 then some ((false, [], [], [], 0, 0), (false, [], [], [], 0, 0), [12], [], [])
 else
 optC (G_held_Without (a3.2.2.2.2.1, [d7.2.2.2.2.1], ())) none fun d10 ↦
 optC (G_held_Without (a3.2.2.2.2.2, [d7.2.2.2.2.1], ())) none fun d11 ↦
 some ((a3.1, a3.2.1, a3.2.2.1, a3.2.2.2.1, d10, d11), (false, [], [], [], 0, 0), [12], [], [])
 else
 optC (G_held_Has (a3.2.2.2.2.2, d7.2.2.2.2.1, ())) none fun d9 ↦
 bif !d9 then some ((false, [], [], [], 0, 0), (false, [], [], [], 0, 0), [], [], [])
 else
 optC (G_held_Without (a3.2.2.2.2.1, [d7.2.2.2.2.1], ())) none fun d10 ↦
 optC (G_held_Without (a3.2.2.2.2.2, [d7.2.2.2.2.1], ())) none fun d11 ↦
 some ((a3.1, a3.2.1, a3.2.2.1, a3.2.2.2.1, d10, d11), (false, [], [], [], 0, 0), [], [], [])
 else
 bif d7.1 == 11 then
 bif decide (0 ≤ d7.2.2.1) then
 optC a3.2.1[Int.toNat d7.2.2.1]? none fun d8 ↦
 bif decide (0 ≤ d7.2.2.2.1) then
 optC a3.2.1[Int.toNat d7.2.2.2.1]? none fun d9 ↦
 optC (G_itv_Refine (d7.2.2.2.2.2.2.1, d8, d9, ())) none fun d10 ↦
 bif d7.2.2.1 == d7.2.2.2.1 then
 optC (G_itv_Meet (d10.1, d10.2.1, ())) none fun d11 ↦
 bif decide (d11.1 > d11.2) then
 optC (G_num_Not (d7.2.2.2.2.2.2.1, ())) none fun d12 ↦
 bif decide (0 ≤ d7.2.2.1) then
 optC a3.2.1[Int.toNat d7.2.2.1]? none fun d13 ↦
 bif decide (0 ≤ d7.2.2.2.1) then
 optC a3.2.1[Int.toNat d7.2.2.2.1]? none fun d14 ↦
 optC (G_itv_Refine (d12, d13, d14, ())) none fun d15 ↦
 bif d7.2.2.1 == d7.2.2.2.1 then
 optC (G_itv_Meet (d15.1, d15.2.1, ())) none fun d16 ↦
 bif decide (d16.1 > d16.2) then some ((false, [], [], [], 0, 0), (false, [], [], [], 0, 0), [], [], [])
 else
 bif decide (d16.1 > d16.2) then some ((false, [], [], [], 0, 0), (false, [], [], [], 0, 0), [], [], [])
 else
 bif decide (((List.length (α := I) []) + List.length a3.2.1 + 1) * 16 ≤ lim) then
 bif decide (0 ≤ d7.2.2.1) then
 optC ([] ++ a3.2.1)[Int.toNat d7.2.2.1]? none fun d17 ↦
 optC ([] ++ a3.2.1)[Int.toNat d7.2.2.1]? none fun d18 ↦
 bif decide (0 ≤ d7.2.2.2.1) then
 optC (([] ++ a3.2.1).set (Int.toNat d7.2.2.1) d16)[Int.toNat d7.2.2.2.1]? none fun d19 ↦
 optC (([] ++ a3.2.1).set (Int.toNat d7.2.2.1) d16)[Int.toNat d7.2.2.2.1]? none fun d20 ↦
 some
 ((false, [], [], [], 0, 0),
 (a3.1, (([] ++ a3.2.1).set (Int.toNat d7.2.2.1) d16).set (Int.toNat d7.2.2.2.1) d16,
 a3.2.2.1, a3.2.2.2.1, a3.2.2.2.2.1, a3.2.2.2.2.2),
 [], [], [])
 else none
 else none
 else none
 else
 bif decide (d15.1.1 > d15.1.2) then
 some ((false, [], [], [], 0, 0), (false, [], [], [], 0, 0), [], [], [])
 else
 bif decide (d15.2.1.1 > d15.2.1.2) then
 some ((false, [], [], [], 0, 0), (false, [], [], [], 0, 0), [], [], [])
 else
 bif decide (((List.length (α := I) []) + List.length a3.2.1 + 1) * 16 ≤ lim) then
 bif decide (0 ≤ d7.2.2.1) then
 optC ([] ++ a3.2.1)[Int.toNat d7.2.2.1]? none fun d16 ↦
 optC ([] ++ a3.2.1)[Int.toNat d7.2.2.1]? none fun d17 ↦
 bif decide (0 ≤ d7.2.2.2.1) then
 optC (([] ++ a3.2.1).set (Int.toNat d7.2.2.1) d15.1)[Int.toNat d7.2.2.2.1]? none fun d18 ↦
 optC (([] ++ a3.2.1).set (Int.toNat d7.2.2.1) d15.1)[Int.toNat d7.2.2.2.1]? none
 fun d19 ↦
 some
 ((false, [], [], [], 0, 0),
 (a3.1, (([] ++ a3.2.1).set (Int.toNat d7.2.2.1) d15.1).set (Int.toNat d7.2.2.2.1) d15.2.1,
 a3.2.2.1, a3.2.2.2.1, a3.2.2.2.2.1, a3.2.2.2.2.2),
 [], [], [])
 else none
 else none
 else none
 else none
 else none
 else
 bif decide (d11.1 > d11.2) then
 optC (G_num_Not (d7.2.2.2.2.2.2.1, ())) none fun d12 ↦
 bif decide (0 ≤ d7.2.2.1) then
 optC a3.2.1[Int.toNat d7.2.2.1]? none fun d13 ↦
 bif decide (0 ≤ d7.2.2.2.1) then
 optC a3.2.1[Int.toNat d7.2.2.2.1]? none fun d14 ↦
 optC (G_itv_Refine (d12, d13, d14, ())) none fun d15 ↦
 bif d7.2.2.1 == d7.2.2.2.1 then
 optC (G_itv_Meet (d15.1, d15.2.1, ())) none fun d16 ↦
 bif decide (d16.1 > d16.2) then some ((false, [], [], [], 0, 0), (false, [], [], [], 0, 0), [], [], [])
 else
 bif decide (d16.1 > d16.2) then
 some ((false, [], [], [], 0, 0), (false, [], [], [], 0, 0), [], [], [])
 else
 bif decide (((List.length (α := I) []) + List.length a3.2.1 + 1) * 16 ≤ lim) then
 bif decide (0 ≤ d7.2.2.1) then
 optC ([] ++ a3.2.1)[Int.toNat d7.2.2.1]? none fun d17 ↦
 optC ([] ++ a3.2.1)[Int.toNat d7.2.2.1]? none fun d18 ↦
 bif decide (0 ≤ d7.2.2.2.1) then
 optC (([] ++ a3.2.1).set (Int.toNat d7.2.2.1) d16)[Int.toNat d7.2.2.2.1]? none fun d19 ↦
 optC (([] ++ a3.2.1).set (Int.toNat d7.2.2.1) d16)[Int.toNat d7.2.2.2.1]? none
 fun d20 ↦
 some
 ((false, [], [], [], 0, 0),
 (a3.1, (([] ++ a3.2.1).set (Int.toNat d7.2.2.1) d16).set (Int.toNat d7.2.2.2.1) d16,
 a3.2.2.1, a3.2.2.2.1, a3.2.2.2.2.1, a3.2.2.2.2.2),
 [], [], [])
 else none
 else none
 else none
 else
 bif decide (d15.1.1 > d15.1.2) then
 some ((false, [], [], [], 0, 0), (false, [], [], [], 0, 0), [], [], [])
 else
 bif decide (d15.2.1.1 > d15.2.1.2) then
 some ((false, [], [], [], 0, 0), (false, [], [], [], 0, 0), [], [], [])
 else
 bif decide (((List.length (α := I) []) + List.length a3.2.1 + 1) * 16 ≤ lim) then
 bif decide (0 ≤ d7.2.2.1) then
 optC ([] ++ a3.2.1)[Int.toNat d7.2.2.1]? none fun d16 ↦
 optC ([] ++ a3.2.1)[Int.toNat d7.2.2.1]? none fun d17 ↦
 bif decide (0 ≤ d7.2.2.2.1) then
 optC (([] ++ a3.2.1).set (Int.toNat d7.2.2.1) d15.1)[Int.toNat d7.2.2.2.1]? none
 fun d18 ↦
 optC (([] ++ a3.2.1).set (Int.toNat d7.2.2.1) d15.1)[Int.toNat d7.2.2.2.1]? none
 fun d19 ↦
 some
 ((false, [], [], [], 0, 0),
 (a3.1,
 (([] ++ a3.2.1).set (Int.toNat d7.2.2.1) d15.1).set (Int.toNat d7.2.2.2.1) d15.2.1,
 a3.2.2.1, a3.2.2.2.1, a3.2.2.2.2.1, a3.2.2.2.2.2),
 [], [], [])
 else none
 else none
 else none
 else none
 else none
 else
 bif decide (((List.length (α := I) []) + List.length a3.2.1 + 1) * 16 ≤ lim) then
 bif decide (0 ≤ d7.2.2.1) then
 optC ([] ++ a3.2.1)[Int.toNat d7.2.2.1]? none fun d12 ↦
 optC ([] ++ a3.2.1)[Int.toNat d7.2.2.1]? none fun d13 ↦
 bif decide (0 ≤ d7.2.2.2.1) then
 optC (([] ++ a3.2.1).set (Int.toNat d7.2.2.1) d11)[Int.toNat d7.2.2.2.1]? none fun d14 ↦
 optC (([] ++ a3.2.1).set (Int.toNat d7.2.2.1) d11)[Int.toNat d7.2.2.2.1]? none fun d15 ↦
 optC (G_num_Not (d7.2.2.2.2.2.2.1, ())) none fun d16 ↦
 bif decide (0 ≤ d7.2.2.1) then
 optC a3.2.1[Int.toNat d7.2.2.1]? none fun d17 ↦
 bif decide (0 ≤ d7.2.2.2.1) then
 optC a3.2.1[Int.toNat d7.2.2.2.1]? none fun d18 ↦
 optC (G_itv_Refine (d16, d17, d18, ())) none fun d19 ↦
 bif d7.2.2.1 == d7.2.2.2.1 then
 optC (G_itv_Meet (d19.1, d19.2.1, ())) none fun d20 ↦
 bif decide (d20.1 > d20.2) then
 some
 ((a3.1, (([] ++ a3.2.1).set (Int.toNat d7.2.2.1) d11).set (Int.toNat d7.2.2.2.1) d11,
 a3.2.2.1, a3.2.2.2.1, a3.2.2.2.2.1, a3.2.2.2.2.2),
 (false, [], [], [], 0, 0), [], [], [])
 else
 bif decide (d20.1 > d20.2) then
 some
 ((a3.1, (([] ++ a3.2.1).set (Int.toNat d7.2.2.1) d11).set (Int.toNat d7.2.2.2.1) d11,
 a3.2.2.1, a3.2.2.2.1, a3.2.2.2.2.1, a3.2.2.2.2.2),
 (false, [], [], [], 0, 0), [], [], [])
 else
 bif decide (((List.length (α := I) []) + List.length a3.2.1 + 1) * 16 ≤ lim) then
 bif decide (0 ≤ d7.2.2.1) then
 optC ([] ++ a3.2.1)[Int.toNat d7.2.2.1]? none fun d21 ↦
 optC ([] ++ a3.2.1)[Int.toNat d7.2.2.1]? none fun d22 ↦
 bif decide (0 ≤ d7.2.2.2.1) then
 optC (([] ++ a3.2.1).set (Int.toNat d7.2.2.1) d20)[Int.toNat d7.2.2.2.1]?
 none fun d23 ↦
 optC (([] ++ a3.2.1).set (Int.toNat d7.2.2.1) d20)[Int.toNat d7.2.2.2.1]?
 none fun d24 ↦
 some
 ((a3.1,
 (([] ++ a3.2.1).set (Int.toNat d7.2.2.1) d11).set (Int.toNat d7.2.2.2.1) d11,
 a3.2.2.1, a3.2.2.2.1, a3.2.2.2.2.1, a3.2.2.2.2.2),
 (a3.1,
 (([] ++ a3.2.1).set (Int.toNat d7.2.2.1) d20).set (Int.toNat d7.2.2.2.1) d20,
 a3.2.2.1, a3.2.2.2.1, a3.2.2.2.2.1, a3.2.2.2.2.2),
 [], [], [])
 else none
 else none
 else none
 else
 bif decide (d19.1.1 > d19.1.2) then
 some
 ((a3.1, (([] ++ a3.2.1).set (Int.toNat d7.2.2.1) d11).set (Int.toNat d7.2.2.2.1) d11,
 a3.2.2.1, a3.2.2.2.1, a3.2.2.2.2.1, a3.2.2.2.2.2),
 (false, [], [], [], 0, 0), [], [], [])
 else
 bif decide (d19.2.1.1 > d19.2.1.2) then
 some
 ((a3.1, (([] ++ a3.2.1).set (Int.toNat d7.2.2.1) d11).set (Int.toNat d7.2.2.2.1) d11,
 a3.2.2.1, a3.2.2.2.1, a3.2.2.2.2.1, a3.2.2.2.2.2),
 (false, [], [], [], 0, 0), [], [], [])
 else
 bif decide (((List.length (α := I) []) + List.length a3.2.1 + 1) * 16 ≤ lim) then
 bif decide (0 ≤ d7.2.2.1) then
 optC ([] ++ a3.2.1)[Int.toNat d7.2.2.1]? none fun d20 ↦
 optC ([] ++ a3.2.1)[Int.toNat d7.2.2.1]? none fun d21 ↦
 bif decide (0 ≤ d7.2.2.2.1) then
 optC (([] ++ a3.2.1).set (Int.toNat d7.2.2.1) d19.1)[Int.toNat d7.2.2.2.1]?
 none fun d22 ↦
 optC (([] ++ a3.2.1).set (Int.toNat d7.2.2.1) d19.1)[Int.toNat d7.2.2.2.1]?
 none fun d23 ↦
 some
 ((a3.1,
 (([] ++ a3.2.1).set (Int.toNat d7.2.2.1) d11).set (Int.toNat d7.2.2.2.1) d11,
 a3.2.2.1, a3.2.2.2.1, a3.2.2.2.2.1, a3.2.2.2.2.2),
 (a3.1,
 (([] ++ a3.2.1).set (Int.toNat d7.2.2.1) d19.1).set (Int.toNat d7.2.2.2.1)
 d19.2.1,
 a3.2.2.1, a3.2.2.2.1, a3.2.2.2.2.1, a3.2.2.2.2.2),
 [], [], [])
 else none
 else none
 else none
 else none
 else none
 else none
 else none
 else none
 else
 bif decide (d10.1.1 > d10.1.2) then
 optC (G_num_Not (d7.2.2.2.2.2.2.1, ())) none fun d11 ↦
 bif decide (0 ≤ d7.2.2.1) then
 optC a3.2.1[Int.toNat d7.2.2.1]? none fun d12 ↦
 bif decide (0 ≤ d7.2.2.2.1) then
 optC a3.2.1[Int.toNat d7.2.2.2.1]? none fun d13 ↦
 optC (G_itv_Refine (d11, d12, d13, ())) none fun d14 ↦
 bif d7.2.2.1 == d7.2.2.2.1 then
 optC (G_itv_Meet (d14.1, d14.2.1, ())) none fun d15 ↦
 bif decide (d15.1 > d15.2) then some ((false, [], [], [], 0, 0), (false, [], [], [], 0, 0), [], [], [])
 else
 bif decide (d15.1 > d15.2) then some ((false, [], [], [], 0, 0), (false, [], [], [], 0, 0), [], [], [])
 else
 bif decide (((List.length (α := I) []) + List.length a3.2.1 + 1) * 16 ≤ lim) then
 bif decide (0 ≤ d7.2.2.1) then
 optC ([] ++ a3.2.1)[Int.toNat d7.2.2.1]? none fun d16 ↦
 optC ([] ++ a3.2.1)[Int.toNat d7.2.2.1]? none fun d17 ↦
 bif decide (0 ≤ d7.2.2.2.1) then
 optC (([] ++ a3.2.1).set (Int.toNat d7.2.2.1) d15)[Int.toNat d7.2.2.2.1]? none fun d18 ↦
 optC (([] ++ a3.2.1).set (Int.toNat d7.2.2.1) d15)[Int.toNat d7.2.2.2.1]? none fun d19 ↦
 some
 ((false, [], [], [], 0, 0),
 (a3.1, (([] ++ a3.2.1).set (Int.toNat d7.2.2.1) d15).set (Int.toNat d7.2.2.2.1) d15,
 a3.2.2.1, a3.2.2.2.1, a3.2.2.2.2.1, a3.2.2.2.2.2),
 [], [], [])
 else none
 else none
 else none
 else
 bif decide (d14.1.1 > d14.1.2) then
 some ((false, [], [], [], 0, 0), (false, [], [], [], 0, 0), [], [], [])
 else
 bif decide (d14.2.1.1 > d14.2.1.2) then
 some ((false, [], [], [], 0, 0), (false, [], [], [], 0, 0), [], [], [])
 else
 bif decide (((List.length (α := I) []) + List.length a3.2.1 + 1) * 16 ≤ lim) then
 bif decide (0 ≤ d7.2.2.1) then
 optC ([] ++ a3.2.1)[Int.toNat d7.2.2.1]? none fun d15 ↦
 optC ([] ++ a3.2.1)[Int.toNat d7.2.2.1]? none fun d16 ↦
 bif decide (0 ≤ d7.2.2.2.1) then
 optC (([] ++ a3.2.1).set (Int.toNat d7.2.2.1) d14.1)[Int.toNat d7.2.2.2.1]? none fun d17 ↦
 optC (([] ++ a3.2.1).set (Int.toNat d7.2.2.1) d14.1)[Int.toNat d7.2.2.2.1]? none fun d18 ↦
 some
 ((false, [], [], [], 0, 0),
 (a3.1, (([] ++ a3.2.1).set (Int.toNat d7.2.2.1) d14.1).set (Int.toNat d7.2.2.2.1) d14.2.1,
 a3.2.2.1, a3.2.2.2.1, a3.2.2.2.2.1, a3.2.2.2.2.2),
 [], [], [])
 else none
 else none
 else none
 else none
 else none
 else
 bif decide (d10.2.1.1 > d10.2.1.2) then
 optC (G_num_Not (d7.2.2.2.2.2.2.1, ())) none fun d11 ↦
 bif decide (0 ≤ d7.2.2.1) then
 optC a3.2.1[Int.toNat d7.2.2.1]? none fun d12 ↦
 bif decide (0 ≤ d7.2.2.2.1) then
 optC a3.2.1[Int.toNat d7.2.2.2.1]? none fun d13 ↦
 optC (G_itv_Refine (d11, d12, d13, ())) none fun d14 ↦
 bif d7.2.2.1 == d7.2.2.2.1 then
 optC (G_itv_Meet (d14.1, d14.2.1, ())) none fun d15 ↦
 bif decide (d15.1 > d15.2) then some ((false, [], [], [], 0, 0), (false, [], [], [], 0, 0), [], [], [])
 else
 bif decide (d15.1 > d15.2) then some ((false, [], [], [], 0, 0), (false, [], [], [], 0, 0), [], [], [])
 else
 bif decide (((List.length (α := I) []) + List.length a3.2.1 + 1) * 16 ≤ lim) then
 bif decide (0 ≤ d7.2.2.1) then
 optC ([] ++ a3.2.1)[Int.toNat d7.2.2.1]? none fun d16 ↦
 optC ([] ++ a3.2.1)[Int.toNat d7.2.2.1]? none fun d17 ↦
 bif decide (0 ≤ d7.2.2.2.1) then
 optC (([] ++ a3.2.1).set (Int.toNat d7.2.2.1) d15)[Int.toNat d7.2.2.2.1]? none fun d18 ↦
 optC (([] ++ a3.2.1).set (Int.toNat d7.2.2.1) d15)[Int.toNat d7.2.2.2.1]? none fun d19 ↦
 some
 ((false, [], [], [], 0, 0),
 (a3.1, (([] ++ a3.2.1).set (Int.toNat d7.2.2.1) d15).set (Int.toNat d7.2.2.2.1) d15,
 a3.2.2.1, a3.2.2.2.1, a3.2.2.2.2.1, a3.2.2.2.2.2),
 [], [], [])
 else none
 else none
 else none
 else
 bif decide (d14.1.1 > d14.1.2) then
 some ((false, [], [], [], 0, 0), (false, [], [], [], 0, 0), [], [], [])
 else
 bif decide (d14.2.1.1 > d14.2.1.2) then
 some ((false, [], [], [], 0, 0), (false, [], [], [], 0, 0), [], [], [])
 else
 bif decide (((List.length (α := I) []) + List.length a3.2.1 + 1) * 16 ≤ lim) then
 bif decide (0 ≤ d7.2.2.1) then
 optC ([] ++ a3.2.1)[Int.toNat d7.2.2.1]? none fun d15 ↦
 optC ([] ++ a3.2.1)[Int.toNat d7.2.2.1]? none fun d16 ↦
 bif decide (0 ≤ d7.2.2.2.1) then
 optC (([] ++ a3.2.1).set (Int.toNat d7.2.2.1) d14.1)[Int.toNat d7.2.2.2.1]? none fun d17 ↦
 optC (([] ++ a3.2.1).set (Int.toNat d7.2.2.1) d14.1)[Int.toNat d7.2.2.2.1]? none
 fun d18 ↦
 some
 ((false, [], [], [], 0, 0),
 (a3.1, (([] ++ a3.2.1).set (Int.toNat d7.2.2.1) d14.1).set (Int.toNat d7.2.2.2.1) d14.2.1,
 a3.2.2.1, a3.2.2.2.1, a3.2.2.2.2.1, a3.2.2.2.2.2),
 [], [], [])
 else none
 else none
 else none
 else none
 else none
 else
 bif decide (((List.length (α := I) []) + List.length a3.2.1 + 1) * 16 ≤ lim) then
 bif decide (0 ≤ d7.2.2.1) then
 optC ([] ++ a3.2.1)[Int.toNat d7.2.2.1]? none fun d11 ↦
 optC ([] ++ a3.2.1)[Int.toNat d7.2.2.1]? none fun d12 ↦
 bif decide (0 ≤ d7.2.2.2.1) then
 optC (([] ++ a3.2.1).set (Int.toNat d7.2.2.1) d10.1)[Int.toNat d7.2.2.2.1]? none fun d13 ↦
 optC (([] ++ a3.2.1).set (Int.toNat d7.2.2.1) d10.1)[Int.toNat d7.2.2.2.1]? none fun d14 ↦
 optC (G_num_Not (d7.2.2.2.2.2.2.1, ())) none fun d15 ↦
 bif decide (0 ≤ d7.2.2.1) then
 optC a3.2.1[Int.toNat d7.2.2.1]? none fun d16 ↦
 bif decide (0 ≤ d7.2.2.2.1) then
 optC a3.2.1[Int.toNat d7.2.2.2.1]? none fun d17 ↦
 optC (G_itv_Refine (d15, d16, d17, ())) none fun d18 ↦
 bif d7.2.2.1 == d7.2.2.2.1 then
 optC (G_itv_Meet (d18.1, d18.2.1, ())) none fun d19 ↦
 bif decide (d19.1 > d19.2) then
 some
 ((a3.1, (([] ++ a3.2.1).set (Int.toNat d7.2.2.1) d10.1).set (Int.toNat d7.2.2.2.1) d10.2.1,
 a3.2.2.1, a3.2.2.2.1, a3.2.2.2.2.1, a3.2.2.2.2.2),
 (false, [], [], [], 0, 0), [], [], [])
 else
 bif decide (d19.1 > d19.2) then
 some
 ((a3.1,
 (([] ++ a3.2.1).set (Int.toNat d7.2.2.1) d10.1).set (Int.toNat d7.2.2.2.1) d10.2.1,
 a3.2.2.1, a3.2.2.2.1, a3.2.2.2.2.1, a3.2.2.2.2.2),
 (false, [], [], [], 0, 0), [], [], [])
 else
 bif decide (((List.length (α := I) []) + List.length a3.2.1 + 1) * 16 ≤ lim) then
 bif decide (0 ≤ d7.2.2.1) then
 optC ([] ++ a3.2.1)[Int.toNat d7.2.2.1]? none fun d20 ↦
 optC ([] ++ a3.2.1)[Int.toNat d7.2.2.1]? none fun d21 ↦
 bif decide (0 ≤ d7.2.2.2.1) then
 optC (([] ++ a3.2.1).set (Int.toNat d7.2.2.1) d19)[Int.toNat d7.2.2.2.1]?
 none fun d22 ↦
 optC (([] ++ a3.2.1).set (Int.toNat d7.2.2.1) d19)[Int.toNat d7.2.2.2.1]?
 none fun d23 ↦
 some
 ((a3.1,
 (([] ++ a3.2.1).set (Int.toNat d7.2.2.1) d10.1).set (Int.toNat d7.2.2.2.1)
 d10.2.1,
 a3.2.2.1, a3.2.2.2.1, a3.2.2.2.2.1, a3.2.2.2.2.2),
 (a3.1,
 (([] ++ a3.2.1).set (Int.toNat d7.2.2.1) d19).set (Int.toNat d7.2.2.2.1) d19,
 a3.2.2.1, a3.2.2.2.1, a3.2.2.2.2.1, a3.2.2.2.2.2),
 [], [], [])
 else none
 else none
 else none
 else
 bif decide (d18.1.1 > d18.1.2) then
 some
 ((a3.1, (([] ++ a3.2.1).set (Int.toNat d7.2.2.1) d10.1).set (Int.toNat d7.2.2.2.1) d10.2.1,
 a3.2.2.1, a3.2.2.2.1, a3.2.2.2.2.1, a3.2.2.2.2.2),
 (false, [], [], [], 0, 0), [], [], [])
 else
 bif decide (d18.2.1.1 > d18.2.1.2) then
 some
 ((a3.1, (([] ++ a3.2.1).set (Int.toNat d7.2.2.1) d10.1).set (Int.toNat d7.2.2.2.1) d10.2.1,
 a3.2.2.1, a3.2.2.2.1, a3.2.2.2.2.1, a3.2.2.2.2.2),
 (false, [], [], [], 0, 0), [], [], [])
 else
 bif decide (((List.length (α := I) []) + List.length a3.2.1 + 1) * 16 ≤ lim) then
 bif decide (0 ≤ d7.2.2.1) then
 optC ([] ++ a3.2.1)[Int.toNat d7.2.2.1]? none fun d19 ↦
 optC ([] ++ a3.2.1)[Int.toNat d7.2.2.1]? none fun d20 ↦
 bif decide (0 ≤ d7.2.2.2.1) then
 optC (([] ++ a3.2.1).set (Int.toNat d7.2.2.1) d18.1)[Int.toNat d7.2.2.2.1]?
 none fun d21 ↦
 optC (([] ++ a3.2.1).set (Int.toNat d7.2.2.1) d18.1)[Int.toNat d7.2.2.2.1]?
 none fun d22 ↦
 some
 ((a3.1,
 (([] ++ a3.2.1).set (Int.toNat d7.2.2.1) d10.1).set (Int.toNat d7.2.2.2.1)
 d10.2.1,
 a3.2.2.1, a3.2.2.2.1, a3.2.2.2.2.1, a3.2.2.2.2.2),
 (a3.1,
 (([] ++ a3.2.1).set (Int.toNat d7.2.2.1) d18.1).set (Int.toNat d7.2.2.2.1)
 d18.2.1,
 a3.2.2.1, a3.2.2.2.1, a3.2.2.2.2.1, a3.2.2.2.2.2),
 [], [], [])
 else none
 else none
 else none
 else none
 else none
 else none
 else none
 else none
 else none
 else none
 else
 bif d7.1 == 12 then
 some ((a3.1, a3.2.1, a3.2.2.1, a3.2.2.2.1, a3.2.2.2.2.1, a3.2.2.2.2.2), (false, [], [], [], 0, 0), [], [], [])
 else
 bif d7.1 == 13 then some ((false, [], [], [], 0, 0), (false, [], [], [], 0, 0), [10], [], [])
 else some ((false, [], [], [], 0, 0), (false, [], [], [], 0, 0), [], [], [])
 else some ((false, [], [], [], 0, 0), (false, [], [], [], 0, 0), [], [], [])
 else none
 else none
theorem raw_flow_Do (a0 : U) (a1 : Int) (a2 : Int) (a3 : E) (a4 : (List En)) : evGX cx_flow_Do keeps 8 33 ash_flow_Do (.dat tO) ((a0, a1, a2, a3, a4, ()) : (U × (Int × (Int × (E × ((List En) × Unit)))))) = g_flow_Do a0 a1 a2 a3 a4 := by kernel_rfl
noncomputable def G_flow_Do (x : (U × (Int × (Int × (E × ((List En) × Unit)))))) : Option O := g_flow_Do x.1 x.2.1 x.2.2.1 x.2.2.2.1 x.2.2.2.2.1
noncomputable def con_flow_Do : List AV → Prog AV := conP true ash_flow_Do (.dat tO) G_flow_Do
theorem snd_flow_Do : SoundA Try.prog 33 con_flow_Do := conP_sound (cal_flow_Do 33) true (by rfl) (by rfl) (fun x r e => (evGX_eq _ _ _ _ _ _ _).trans ((raw_flow_Do x.1 x.2.1 x.2.2.1 x.2.2.2.1 x.2.2.2.2.1).trans e)) (.inl rfl)
end Go.Proofs.Ytbdcblpjemmipaa.Ex

namespace Go.Proofs.Ytbdcblpjemmipaa.Ex
open Go.Proofs Go.Proofs.Ytbdcblpjemmipaa
set_option maxRecDepth 100000
set_option maxHeartbeats 2000000
set_option linter.unusedVariables false
set_option linter.unusedSimpArgs false
def ash_ref2_One : List Sh := [.dat (.int .i64)]
noncomputable def sp_ref2_One : Nat → Option (List AV → Prog AV)
  | _ => none
theorem hsp_ref2_One : ∀ g p, sp_ref2_One g = some p → SoundA Try.prog g p := by
  intro g p h
  unfold sp_ref2_One at h
  split at h
  · cases h
noncomputable def cx_ref2_One : Ctx := { tab := tab, spec := sp_ref2_One, inl := inl, lps := fun _ _ => none, fuel := 40 }
theorem in_ref2_One : InlOk Try.prog cx_ref2_One := ⟨inl_ok, fun _ _ _ _ _ _ _ _ h => nomatch h⟩
theorem cal_ref2_One (g : Nat) : SoundA Try.prog g (evF cx_ref2_One keeps 8 g) := evF_sound (tabOk_of tab_ok) (cmpsOk_of tab_ok cmps_ok) mixed in_ref2_One hsp_ref2_One keeps 8 g
noncomputable def g_ref2_One (a0 : Int) : Option I :=
  some (a0, a0)
theorem raw_ref2_One (a0 : Int) : evGX cx_ref2_One keeps 8 73 ash_ref2_One (.dat tI) ((a0, ()) : (Int × Unit)) = g_ref2_One a0 := by kernel_rfl
noncomputable def G_ref2_One (x : (Int × Unit)) : Option I := g_ref2_One x.1
noncomputable def con_ref2_One : List AV → Prog AV := conP true ash_ref2_One (.dat tI) G_ref2_One
theorem snd_ref2_One : SoundA Try.prog 73 con_ref2_One := conP_sound (cal_ref2_One 73) true (by rfl) (by rfl) (fun x r e => (evGX_eq _ _ _ _ _ _ _).trans ((raw_ref2_One x.1).trans e)) (.inl rfl)
end Go.Proofs.Ytbdcblpjemmipaa.Ex

namespace Go.Proofs.Ytbdcblpjemmipaa.Ex
open Go.Proofs Go.Proofs.Ytbdcblpjemmipaa
set_option maxRecDepth 100000
set_option maxHeartbeats 2000000
set_option linter.unusedVariables false
set_option linter.unusedSimpArgs false
end Go.Proofs.Ytbdcblpjemmipaa.Ex

namespace Go.Proofs.Ytbdcblpjemmipaa.Ex
open Go.Proofs Go.Proofs.Ytbdcblpjemmipaa
set_option maxRecDepth 100000
set_option maxHeartbeats 2000000
set_option linter.unusedVariables false
set_option linter.unusedSimpArgs false
end Go.Proofs.Ytbdcblpjemmipaa.Ex

namespace Go.Proofs.Ytbdcblpjemmipaa.Ex
open Go.Proofs Go.Proofs.Ytbdcblpjemmipaa
set_option maxRecDepth 100000
set_option maxHeartbeats 2000000
set_option linter.unusedVariables false
set_option linter.unusedSimpArgs false
end Go.Proofs.Ytbdcblpjemmipaa.Ex

namespace Go.Proofs.Ytbdcblpjemmipaa.Ex
open Go.Proofs Go.Proofs.Ytbdcblpjemmipaa
set_option maxRecDepth 100000
set_option maxHeartbeats 2000000
set_option linter.unusedVariables false
set_option linter.unusedSimpArgs false
end Go.Proofs.Ytbdcblpjemmipaa.Ex

namespace Go.Proofs.Ytbdcblpjemmipaa.Ex
open Go.Proofs Go.Proofs.Ytbdcblpjemmipaa
set_option maxRecDepth 100000
set_option maxHeartbeats 2000000
set_option linter.unusedVariables false
set_option linter.unusedSimpArgs false
end Go.Proofs.Ytbdcblpjemmipaa.Ex

namespace Go.Proofs.Ytbdcblpjemmipaa.Ex
open Go.Proofs Go.Proofs.Ytbdcblpjemmipaa
set_option maxRecDepth 100000
set_option maxHeartbeats 2000000
set_option linter.unusedVariables false
set_option linter.unusedSimpArgs false
end Go.Proofs.Ytbdcblpjemmipaa.Ex

namespace Go.Proofs.Ytbdcblpjemmipaa.Ex
open Go.Proofs
set_option maxRecDepth 100000
set_option maxHeartbeats 2000000
set_option linter.unusedVariables false
set_option linter.unusedSimpArgs false
noncomputable def bF (u : U) (t n : Int) (e : E) (l : List En) (c : C) (a : A) : Option O :=
  bif a.1 == 1 then
   optC (G_itv_Of ([a.2.2.2.2.2.1], ())) (none) fun d8 ↦
   bif decide (((List.length (α := I) []) + List.length e.2.1 + 1) * 16 ≤ lim) then
   bif decide (0 ≤ a.2.1) then
   optC ([] ++ e.2.1)[Int.toNat a.2.1]? (none) fun d9 ↦
   optC ([] ++ e.2.1)[Int.toNat a.2.1]? (none) fun d10 ↦
   some ((e.1, ([] ++ e.2.1).set (Int.toNat a.2.1) d8, e.2.2.1, e.2.2.2.1, e.2.2.2.2.1, e.2.2.2.2.2), (false, [], [], [], 0, 0), [], [], [])
 else none
 else none
 else bif a.1 == 2 then
   bif decide (0 ≤ a.2.2.1) then
   optC e.2.1[Int.toNat a.2.2.1]? (none) fun d8 ↦
   bif decide (((List.length (α := I) []) + List.length e.2.1 + 1) * 16 ≤ lim) then
   bif decide (0 ≤ a.2.1) then
   optC ([] ++ e.2.1)[Int.toNat a.2.1]? (none) fun d9 ↦
   optC ([] ++ e.2.1)[Int.toNat a.2.1]? (none) fun d10 ↦
   some ((e.1, ([] ++ e.2.1).set (Int.toNat a.2.1) d8, e.2.2.1, e.2.2.2.1, e.2.2.2.2.1, e.2.2.2.2.2), (false, [], [], [], 0, 0), [], [], [])
 else none
 else none
 else none
 else bif a.1 == 3 then
   bif decide (((List.length (α := I) []) + List.length e.2.1 + 1) * 16 ≤ lim) then
   bif decide (0 ≤ a.2.1) then
   optC ([] ++ e.2.1)[Int.toNat a.2.1]? (none) fun d8 ↦
   optC ([] ++ e.2.1)[Int.toNat a.2.1]? (none) fun d9 ↦
   some ((e.1, ([] ++ e.2.1).set (Int.toNat a.2.1) (-2147483648, 2147483647), e.2.2.1, e.2.2.2.1, e.2.2.2.2.1, e.2.2.2.2.2), (false, [], [], [], 0, 0), [], [], [])
 else none
 else none
 else bif a.1 == 4 then
   bif decide (0 ≤ a.2.2.1) then
   optC e.2.1[Int.toNat a.2.2.1]? (none) fun d8 ↦
   bif decide (0 ≤ a.2.2.2.1) then
   optC e.2.1[Int.toNat a.2.2.2.1]? (none) fun d9 ↦
   optC (G_itv_Do (a.2.2.2.2.2.2.1, d8, d9, ())) (none) fun d10 ↦
   bif d10.2.1 then
   bif d10.2.2.1 then
   bif !decide (d10.1.1 > d10.1.2) then
   bif decide (((List.length (α := I) []) + List.length e.2.1 + 1) * 16 ≤ lim) then
   bif decide (0 ≤ a.2.1) then
   optC ([] ++ e.2.1)[Int.toNat a.2.1]? (none) fun d11 ↦
   optC ([] ++ e.2.1)[Int.toNat a.2.1]? (none) fun d12 ↦
   some ((e.1, ([] ++ e.2.1).set (Int.toNat a.2.1) d10.1, e.2.2.1, e.2.2.2.1, e.2.2.2.2.1, e.2.2.2.2.2), (false, [], [], [], 0, 0), [7, 8], [], [])
 else none
 else none
 else some ((false, [], [], [], 0, 0), (false, [], [], [], 0, 0), [7, 8], [], [])
 else bif !decide (d10.1.1 > d10.1.2) then
   bif decide (((List.length (α := I) []) + List.length e.2.1 + 1) * 16 ≤ lim) then
   bif decide (0 ≤ a.2.1) then
   optC ([] ++ e.2.1)[Int.toNat a.2.1]? (none) fun d11 ↦
   optC ([] ++ e.2.1)[Int.toNat a.2.1]? (none) fun d12 ↦
   some ((e.1, ([] ++ e.2.1).set (Int.toNat a.2.1) d10.1, e.2.2.1, e.2.2.2.1, e.2.2.2.2.1, e.2.2.2.2.2), (false, [], [], [], 0, 0), [7], [], [])
 else none
 else none
 else some ((false, [], [], [], 0, 0), (false, [], [], [], 0, 0), [7], [], [])
 else bif d10.2.2.1 then
   bif !decide (d10.1.1 > d10.1.2) then
   bif decide (((List.length (α := I) []) + List.length e.2.1 + 1) * 16 ≤ lim) then
   bif decide (0 ≤ a.2.1) then
   optC ([] ++ e.2.1)[Int.toNat a.2.1]? (none) fun d11 ↦
   optC ([] ++ e.2.1)[Int.toNat a.2.1]? (none) fun d12 ↦
   some ((e.1, ([] ++ e.2.1).set (Int.toNat a.2.1) d10.1, e.2.2.1, e.2.2.2.1, e.2.2.2.2.1, e.2.2.2.2.2), (false, [], [], [], 0, 0), [8], [], [])
 else none
 else none
 else some ((false, [], [], [], 0, 0), (false, [], [], [], 0, 0), [8], [], [])
 else bif !decide (d10.1.1 > d10.1.2) then
   bif decide (((List.length (α := I) []) + List.length e.2.1 + 1) * 16 ≤ lim) then
   bif decide (0 ≤ a.2.1) then
   optC ([] ++ e.2.1)[Int.toNat a.2.1]? (none) fun d11 ↦
   optC ([] ++ e.2.1)[Int.toNat a.2.1]? (none) fun d12 ↦
   some ((e.1, ([] ++ e.2.1).set (Int.toNat a.2.1) d10.1, e.2.2.1, e.2.2.2.1, e.2.2.2.2.1, e.2.2.2.2.2), (false, [], [], [], 0, 0), [], [], [])
 else none
 else none
 else some ((false, [], [], [], 0, 0), (false, [], [], [], 0, 0), [], [], [])
 else none
 else none
 else bif a.1 == 5 then
   optC (G_flow_Read (u, t, e, l, false, a.2.2.2.2.1, ())) (none) fun d8 ↦
   bif decide (((List.length (α := I) []) + List.length e.2.1 + 1) * 16 ≤ lim) then
   bif decide (0 ≤ a.2.1) then
   optC ([] ++ e.2.1)[Int.toNat a.2.1]? (none) fun d9 ↦
   optC ([] ++ e.2.1)[Int.toNat a.2.1]? (none) fun d10 ↦
   some ((e.1, ([] ++ e.2.1).set (Int.toNat a.2.1) d8, e.2.2.1, e.2.2.2.1, e.2.2.2.2.1, e.2.2.2.2.2), (false, [], [], [], 0, 0), [], [], [(t, n, false, a.2.2.2.2.1, false, e.2.2.2.2.1)])
 else none
 else none
 else bif a.1 == 6 then
   bif decide (0 ≤ a.2.2.1) then
   optC e.2.1[Int.toNat a.2.2.1]? (none) fun d8 ↦
   bif decide (((List.length (α := I) []) + List.length e.2.2.1 + 1) * 16 ≤ lim) then
   bif decide (0 ≤ a.2.2.2.2.1) then
   optC ([] ++ e.2.2.1)[Int.toNat a.2.2.2.2.1]? (none) fun d9 ↦
   optC ([] ++ e.2.2.1)[Int.toNat a.2.2.2.2.1]? (none) fun d10 ↦
   some ((e.1, e.2.1, ([] ++ e.2.2.1).set (Int.toNat a.2.2.2.2.1) d8, e.2.2.2.1, e.2.2.2.2.1, e.2.2.2.2.2), (false, [], [], [], 0, 0), [], [(t, false, a.2.2.2.2.1, e.2.2.2.2.1, d8.1, d8.2)], [(t, n, false, a.2.2.2.2.1, true, e.2.2.2.2.1)])
 else none
 else none
 else none
 else bif a.1 == 7 then
   bif decide (0 ≤ a.2.2.2.2.1) then
   optC u.2.1[Int.toNat a.2.2.2.2.1]? (none) fun d8 ↦
   bif decide (0 ≤ a.2.2.1) then
   optC e.2.1[Int.toNat a.2.2.1]? (none) fun d9 ↦
   optC (G_itv_Leq (d9, (0, Go.IntKind.i64.wrap (d8 - 1)), ())) (none) fun d10 ↦
   bif !d10 then
   bif a.1 == 8 then
   bif decide (0 ≤ a.2.2.2.1) then
   optC e.2.1[Int.toNat a.2.2.2.1]? (none) fun d11 ↦
   optC (G_itv_Meet (d9, (0, Go.IntKind.i64.wrap (d8 - 1)), ())) (none) fun d12 ↦
   bif decide (d12.1 > d12.2) then
   some ((false, [], [], [], 0, 0), (false, [], [], [], 0, 0), [9], [(t, true, a.2.2.2.2.1, e.2.2.2.2.1, d11.1, d11.2)], [(t, n, true, a.2.2.2.2.1, a.1 == 8, e.2.2.2.2.1)])
 else bif decide (((List.length (α := I) []) + List.length e.2.1 + 1) * 16 ≤ lim) then
   bif decide (0 ≤ a.2.2.1) then
   optC ([] ++ e.2.1)[Int.toNat a.2.2.1]? (none) fun d13 ↦
   optC ([] ++ e.2.1)[Int.toNat a.2.2.1]? (none) fun d14 ↦
   bif !a.1 == 8 then
   optC (G_flow_Read (u, t, (e.1, ([] ++ e.2.1).set (Int.toNat a.2.2.1) d12, e.2.2), l, true, a.2.2.2.2.1, ())) (none) fun d15 ↦
   bif decide (((List.length (α := I) []) + (([] ++ e.2.1).set (Int.toNat a.2.2.1) d12).length + 1) * 16 ≤ lim) then
   bif decide (0 ≤ a.2.1) then
   optC ([] ++ ([] ++ e.2.1).set (Int.toNat a.2.2.1) d12)[Int.toNat a.2.1]? (none) fun d16 ↦
   optC ([] ++ ([] ++ e.2.1).set (Int.toNat a.2.2.1) d12)[Int.toNat a.2.1]? (none) fun d17 ↦
   some ((e.1, ([] ++ ([] ++ e.2.1).set (Int.toNat a.2.2.1) d12).set (Int.toNat a.2.1) d15, e.2.2.1, e.2.2.2.1, e.2.2.2.2.1, e.2.2.2.2.2), (false, [], [], [], 0, 0), [9], [(t, true, a.2.2.2.2.1, e.2.2.2.2.1, d11.1, d11.2)], [(t, n, true, a.2.2.2.2.1, a.1 == 8, e.2.2.2.2.1)])
 else none
 else none
 else bif decide (((List.length (α := I) []) + List.length e.2.2.2.1 + 1) * 16 ≤ lim) then
   bif decide (0 ≤ a.2.2.2.2.1) then
   optC ([] ++ e.2.2.2.1)[Int.toNat a.2.2.2.2.1]? (none) fun d15 ↦
   optC ([] ++ e.2.2.2.1)[Int.toNat a.2.2.2.2.1]? (none) fun d16 ↦
   bif decide (0 ≤ a.2.2.2.1) then
   optC (([] ++ e.2.1).set (Int.toNat a.2.2.1) d12)[Int.toNat a.2.2.2.1]? (none) fun d17 ↦
   optC (([] ++ e.2.1).set (Int.toNat a.2.2.1) d12)[Int.toNat a.2.2.2.1]? (none) fun d18 ↦
   optC (G_itv_Join ([d16, d18], ())) (none) fun d19 ↦
   bif decide (0 ≤ a.2.2.2.2.1) then
   optC ([] ++ e.2.2.2.1)[Int.toNat a.2.2.2.2.1]? (none) fun d20 ↦
   optC ([] ++ e.2.2.2.1)[Int.toNat a.2.2.2.2.1]? (none) fun d21 ↦
   some ((e.1, ([] ++ e.2.1).set (Int.toNat a.2.2.1) d12, e.2.2.1, ([] ++ e.2.2.2.1).set (Int.toNat a.2.2.2.2.1) d19, e.2.2.2.2.1, e.2.2.2.2.2), (false, [], [], [], 0, 0), [9], [(t, true, a.2.2.2.2.1, e.2.2.2.2.1, d11.1, d11.2)], [(t, n, true, a.2.2.2.2.1, a.1 == 8, e.2.2.2.2.1)])
 else none
 else none
 else none
 else none
 else none
 else none
 else none
 else optC (G_itv_Meet (d9, (0, Go.IntKind.i64.wrap (d8 - 1)), ())) (none) fun d11 ↦
   bif decide (d11.1 > d11.2) then
   some ((false, [], [], [], 0, 0), (false, [], [], [], 0, 0), [9], [], [(t, n, true, a.2.2.2.2.1, a.1 == 8, e.2.2.2.2.1)])
 else bif decide (((List.length (α := I) []) + List.length e.2.1 + 1) * 16 ≤ lim) then
   bif decide (0 ≤ a.2.2.1) then
   optC ([] ++ e.2.1)[Int.toNat a.2.2.1]? (none) fun d12 ↦
   optC ([] ++ e.2.1)[Int.toNat a.2.2.1]? (none) fun d13 ↦
   bif !a.1 == 8 then
   optC (G_flow_Read (u, t, (e.1, ([] ++ e.2.1).set (Int.toNat a.2.2.1) d11, e.2.2), l, true, a.2.2.2.2.1, ())) (none) fun d14 ↦
   bif decide (((List.length (α := I) []) + (([] ++ e.2.1).set (Int.toNat a.2.2.1) d11).length + 1) * 16 ≤ lim) then
   bif decide (0 ≤ a.2.1) then
   optC ([] ++ ([] ++ e.2.1).set (Int.toNat a.2.2.1) d11)[Int.toNat a.2.1]? (none) fun d15 ↦
   optC ([] ++ ([] ++ e.2.1).set (Int.toNat a.2.2.1) d11)[Int.toNat a.2.1]? (none) fun d16 ↦
   some ((e.1, ([] ++ ([] ++ e.2.1).set (Int.toNat a.2.2.1) d11).set (Int.toNat a.2.1) d14, e.2.2.1, e.2.2.2.1, e.2.2.2.2.1, e.2.2.2.2.2), (false, [], [], [], 0, 0), [9], [], [(t, n, true, a.2.2.2.2.1, a.1 == 8, e.2.2.2.2.1)])
 else none
 else none
 else bif decide (((List.length (α := I) []) + List.length e.2.2.2.1 + 1) * 16 ≤ lim) then
   bif decide (0 ≤ a.2.2.2.2.1) then
   optC ([] ++ e.2.2.2.1)[Int.toNat a.2.2.2.2.1]? (none) fun d14 ↦
   optC ([] ++ e.2.2.2.1)[Int.toNat a.2.2.2.2.1]? (none) fun d15 ↦
   bif decide (0 ≤ a.2.2.2.1) then
   optC (([] ++ e.2.1).set (Int.toNat a.2.2.1) d11)[Int.toNat a.2.2.2.1]? (none) fun d16 ↦
   optC (([] ++ e.2.1).set (Int.toNat a.2.2.1) d11)[Int.toNat a.2.2.2.1]? (none) fun d17 ↦
   optC (G_itv_Join ([d15, d17], ())) (none) fun d18 ↦
   bif decide (0 ≤ a.2.2.2.2.1) then
   optC ([] ++ e.2.2.2.1)[Int.toNat a.2.2.2.2.1]? (none) fun d19 ↦
   optC ([] ++ e.2.2.2.1)[Int.toNat a.2.2.2.2.1]? (none) fun d20 ↦
   some ((e.1, ([] ++ e.2.1).set (Int.toNat a.2.2.1) d11, e.2.2.1, ([] ++ e.2.2.2.1).set (Int.toNat a.2.2.2.2.1) d18, e.2.2.2.2.1, e.2.2.2.2.2), (false, [], [], [], 0, 0), [9], [], [(t, n, true, a.2.2.2.2.1, a.1 == 8, e.2.2.2.2.1)])
 else none
 else none
 else none
 else none
 else none
 else none
 else bif a.1 == 8 then
   bif decide (0 ≤ a.2.2.2.1) then
   optC e.2.1[Int.toNat a.2.2.2.1]? (none) fun d11 ↦
   optC (G_itv_Meet (d9, (0, Go.IntKind.i64.wrap (d8 - 1)), ())) (none) fun d12 ↦
   bif decide (d12.1 > d12.2) then
   some ((false, [], [], [], 0, 0), (false, [], [], [], 0, 0), [], [(t, true, a.2.2.2.2.1, e.2.2.2.2.1, d11.1, d11.2)], [(t, n, true, a.2.2.2.2.1, a.1 == 8, e.2.2.2.2.1)])
 else bif decide (((List.length (α := I) []) + List.length e.2.1 + 1) * 16 ≤ lim) then
   bif decide (0 ≤ a.2.2.1) then
   optC ([] ++ e.2.1)[Int.toNat a.2.2.1]? (none) fun d13 ↦
   optC ([] ++ e.2.1)[Int.toNat a.2.2.1]? (none) fun d14 ↦
   bif !a.1 == 8 then
   optC (G_flow_Read (u, t, (e.1, ([] ++ e.2.1).set (Int.toNat a.2.2.1) d12, e.2.2), l, true, a.2.2.2.2.1, ())) (none) fun d15 ↦
   bif decide (((List.length (α := I) []) + (([] ++ e.2.1).set (Int.toNat a.2.2.1) d12).length + 1) * 16 ≤ lim) then
   bif decide (0 ≤ a.2.1) then
   optC ([] ++ ([] ++ e.2.1).set (Int.toNat a.2.2.1) d12)[Int.toNat a.2.1]? (none) fun d16 ↦
   optC ([] ++ ([] ++ e.2.1).set (Int.toNat a.2.2.1) d12)[Int.toNat a.2.1]? (none) fun d17 ↦
   some ((e.1, ([] ++ ([] ++ e.2.1).set (Int.toNat a.2.2.1) d12).set (Int.toNat a.2.1) d15, e.2.2.1, e.2.2.2.1, e.2.2.2.2.1, e.2.2.2.2.2), (false, [], [], [], 0, 0), [], [(t, true, a.2.2.2.2.1, e.2.2.2.2.1, d11.1, d11.2)], [(t, n, true, a.2.2.2.2.1, a.1 == 8, e.2.2.2.2.1)])
 else none
 else none
 else bif decide (((List.length (α := I) []) + List.length e.2.2.2.1 + 1) * 16 ≤ lim) then
   bif decide (0 ≤ a.2.2.2.2.1) then
   optC ([] ++ e.2.2.2.1)[Int.toNat a.2.2.2.2.1]? (none) fun d15 ↦
   optC ([] ++ e.2.2.2.1)[Int.toNat a.2.2.2.2.1]? (none) fun d16 ↦
   bif decide (0 ≤ a.2.2.2.1) then
   optC (([] ++ e.2.1).set (Int.toNat a.2.2.1) d12)[Int.toNat a.2.2.2.1]? (none) fun d17 ↦
   optC (([] ++ e.2.1).set (Int.toNat a.2.2.1) d12)[Int.toNat a.2.2.2.1]? (none) fun d18 ↦
   optC (G_itv_Join ([d16, d18], ())) (none) fun d19 ↦
   bif decide (0 ≤ a.2.2.2.2.1) then
   optC ([] ++ e.2.2.2.1)[Int.toNat a.2.2.2.2.1]? (none) fun d20 ↦
   optC ([] ++ e.2.2.2.1)[Int.toNat a.2.2.2.2.1]? (none) fun d21 ↦
   some ((e.1, ([] ++ e.2.1).set (Int.toNat a.2.2.1) d12, e.2.2.1, ([] ++ e.2.2.2.1).set (Int.toNat a.2.2.2.2.1) d19, e.2.2.2.2.1, e.2.2.2.2.2), (false, [], [], [], 0, 0), [], [(t, true, a.2.2.2.2.1, e.2.2.2.2.1, d11.1, d11.2)], [(t, n, true, a.2.2.2.2.1, a.1 == 8, e.2.2.2.2.1)])
 else none
 else none
 else none
 else none
 else none
 else none
 else none
 else optC (G_itv_Meet (d9, (0, Go.IntKind.i64.wrap (d8 - 1)), ())) (none) fun d11 ↦
   bif decide (d11.1 > d11.2) then
   some ((false, [], [], [], 0, 0), (false, [], [], [], 0, 0), [], [], [(t, n, true, a.2.2.2.2.1, a.1 == 8, e.2.2.2.2.1)])
 else bif decide (((List.length (α := I) []) + List.length e.2.1 + 1) * 16 ≤ lim) then
   bif decide (0 ≤ a.2.2.1) then
   optC ([] ++ e.2.1)[Int.toNat a.2.2.1]? (none) fun d12 ↦
   optC ([] ++ e.2.1)[Int.toNat a.2.2.1]? (none) fun d13 ↦
   bif !a.1 == 8 then
   optC (G_flow_Read (u, t, (e.1, ([] ++ e.2.1).set (Int.toNat a.2.2.1) d11, e.2.2), l, true, a.2.2.2.2.1, ())) (none) fun d14 ↦
   bif decide (((List.length (α := I) []) + (([] ++ e.2.1).set (Int.toNat a.2.2.1) d11).length + 1) * 16 ≤ lim) then
   bif decide (0 ≤ a.2.1) then
   optC ([] ++ ([] ++ e.2.1).set (Int.toNat a.2.2.1) d11)[Int.toNat a.2.1]? (none) fun d15 ↦
   optC ([] ++ ([] ++ e.2.1).set (Int.toNat a.2.2.1) d11)[Int.toNat a.2.1]? (none) fun d16 ↦
   some ((e.1, ([] ++ ([] ++ e.2.1).set (Int.toNat a.2.2.1) d11).set (Int.toNat a.2.1) d14, e.2.2.1, e.2.2.2.1, e.2.2.2.2.1, e.2.2.2.2.2), (false, [], [], [], 0, 0), [], [], [(t, n, true, a.2.2.2.2.1, a.1 == 8, e.2.2.2.2.1)])
 else none
 else none
 else bif decide (((List.length (α := I) []) + List.length e.2.2.2.1 + 1) * 16 ≤ lim) then
   bif decide (0 ≤ a.2.2.2.2.1) then
   optC ([] ++ e.2.2.2.1)[Int.toNat a.2.2.2.2.1]? (none) fun d14 ↦
   optC ([] ++ e.2.2.2.1)[Int.toNat a.2.2.2.2.1]? (none) fun d15 ↦
   bif decide (0 ≤ a.2.2.2.1) then
   optC (([] ++ e.2.1).set (Int.toNat a.2.2.1) d11)[Int.toNat a.2.2.2.1]? (none) fun d16 ↦
   optC (([] ++ e.2.1).set (Int.toNat a.2.2.1) d11)[Int.toNat a.2.2.2.1]? (none) fun d17 ↦
   optC (G_itv_Join ([d15, d17], ())) (none) fun d18 ↦
   bif decide (0 ≤ a.2.2.2.2.1) then
   optC ([] ++ e.2.2.2.1)[Int.toNat a.2.2.2.2.1]? (none) fun d19 ↦
   optC ([] ++ e.2.2.2.1)[Int.toNat a.2.2.2.2.1]? (none) fun d20 ↦
   some ((e.1, ([] ++ e.2.1).set (Int.toNat a.2.2.1) d11, e.2.2.1, ([] ++ e.2.2.2.1).set (Int.toNat a.2.2.2.2.1) d18, e.2.2.2.2.1, e.2.2.2.2.2), (false, [], [], [], 0, 0), [], [], [(t, n, true, a.2.2.2.2.1, a.1 == 8, e.2.2.2.2.1)])
 else none
 else none
 else none
 else none
 else none
 else none
 else none
 else none
 else bif a.1 == 8 then
   bif decide (0 ≤ a.2.2.2.2.1) then
   optC u.2.1[Int.toNat a.2.2.2.2.1]? (none) fun d8 ↦
   bif decide (0 ≤ a.2.2.1) then
   optC e.2.1[Int.toNat a.2.2.1]? (none) fun d9 ↦
   optC (G_itv_Leq (d9, (0, Go.IntKind.i64.wrap (d8 - 1)), ())) (none) fun d10 ↦
   bif !d10 then
   bif a.1 == 8 then
   bif decide (0 ≤ a.2.2.2.1) then
   optC e.2.1[Int.toNat a.2.2.2.1]? (none) fun d11 ↦
   optC (G_itv_Meet (d9, (0, Go.IntKind.i64.wrap (d8 - 1)), ())) (none) fun d12 ↦
   bif decide (d12.1 > d12.2) then
   some ((false, [], [], [], 0, 0), (false, [], [], [], 0, 0), [9], [(t, true, a.2.2.2.2.1, e.2.2.2.2.1, d11.1, d11.2)], [(t, n, true, a.2.2.2.2.1, a.1 == 8, e.2.2.2.2.1)])
 else bif decide (((List.length (α := I) []) + List.length e.2.1 + 1) * 16 ≤ lim) then
   bif decide (0 ≤ a.2.2.1) then
   optC ([] ++ e.2.1)[Int.toNat a.2.2.1]? (none) fun d13 ↦
   optC ([] ++ e.2.1)[Int.toNat a.2.2.1]? (none) fun d14 ↦
   bif !a.1 == 8 then
   optC (G_flow_Read (u, t, (e.1, ([] ++ e.2.1).set (Int.toNat a.2.2.1) d12, e.2.2), l, true, a.2.2.2.2.1, ())) (none) fun d15 ↦
   bif decide (((List.length (α := I) []) + (([] ++ e.2.1).set (Int.toNat a.2.2.1) d12).length + 1) * 16 ≤ lim) then
   bif decide (0 ≤ a.2.1) then
   optC ([] ++ ([] ++ e.2.1).set (Int.toNat a.2.2.1) d12)[Int.toNat a.2.1]? (none) fun d16 ↦
   optC ([] ++ ([] ++ e.2.1).set (Int.toNat a.2.2.1) d12)[Int.toNat a.2.1]? (none) fun d17 ↦
   some ((e.1, ([] ++ ([] ++ e.2.1).set (Int.toNat a.2.2.1) d12).set (Int.toNat a.2.1) d15, e.2.2.1, e.2.2.2.1, e.2.2.2.2.1, e.2.2.2.2.2), (false, [], [], [], 0, 0), [9], [(t, true, a.2.2.2.2.1, e.2.2.2.2.1, d11.1, d11.2)], [(t, n, true, a.2.2.2.2.1, a.1 == 8, e.2.2.2.2.1)])
 else none
 else none
 else bif decide (((List.length (α := I) []) + List.length e.2.2.2.1 + 1) * 16 ≤ lim) then
   bif decide (0 ≤ a.2.2.2.2.1) then
   optC ([] ++ e.2.2.2.1)[Int.toNat a.2.2.2.2.1]? (none) fun d15 ↦
   optC ([] ++ e.2.2.2.1)[Int.toNat a.2.2.2.2.1]? (none) fun d16 ↦
   bif decide (0 ≤ a.2.2.2.1) then
   optC (([] ++ e.2.1).set (Int.toNat a.2.2.1) d12)[Int.toNat a.2.2.2.1]? (none) fun d17 ↦
   optC (([] ++ e.2.1).set (Int.toNat a.2.2.1) d12)[Int.toNat a.2.2.2.1]? (none) fun d18 ↦
   optC (G_itv_Join ([d16, d18], ())) (none) fun d19 ↦
   bif decide (0 ≤ a.2.2.2.2.1) then
   optC ([] ++ e.2.2.2.1)[Int.toNat a.2.2.2.2.1]? (none) fun d20 ↦
   optC ([] ++ e.2.2.2.1)[Int.toNat a.2.2.2.2.1]? (none) fun d21 ↦
   some ((e.1, ([] ++ e.2.1).set (Int.toNat a.2.2.1) d12, e.2.2.1, ([] ++ e.2.2.2.1).set (Int.toNat a.2.2.2.2.1) d19, e.2.2.2.2.1, e.2.2.2.2.2), (false, [], [], [], 0, 0), [9], [(t, true, a.2.2.2.2.1, e.2.2.2.2.1, d11.1, d11.2)], [(t, n, true, a.2.2.2.2.1, a.1 == 8, e.2.2.2.2.1)])
 else none
 else none
 else none
 else none
 else none
 else none
 else none
 else optC (G_itv_Meet (d9, (0, Go.IntKind.i64.wrap (d8 - 1)), ())) (none) fun d11 ↦
   bif decide (d11.1 > d11.2) then
   some ((false, [], [], [], 0, 0), (false, [], [], [], 0, 0), [9], [], [(t, n, true, a.2.2.2.2.1, a.1 == 8, e.2.2.2.2.1)])
 else bif decide (((List.length (α := I) []) + List.length e.2.1 + 1) * 16 ≤ lim) then
   bif decide (0 ≤ a.2.2.1) then
   optC ([] ++ e.2.1)[Int.toNat a.2.2.1]? (none) fun d12 ↦
   optC ([] ++ e.2.1)[Int.toNat a.2.2.1]? (none) fun d13 ↦
   bif !a.1 == 8 then
   optC (G_flow_Read (u, t, (e.1, ([] ++ e.2.1).set (Int.toNat a.2.2.1) d11, e.2.2), l, true, a.2.2.2.2.1, ())) (none) fun d14 ↦
   bif decide (((List.length (α := I) []) + (([] ++ e.2.1).set (Int.toNat a.2.2.1) d11).length + 1) * 16 ≤ lim) then
   bif decide (0 ≤ a.2.1) then
   optC ([] ++ ([] ++ e.2.1).set (Int.toNat a.2.2.1) d11)[Int.toNat a.2.1]? (none) fun d15 ↦
   optC ([] ++ ([] ++ e.2.1).set (Int.toNat a.2.2.1) d11)[Int.toNat a.2.1]? (none) fun d16 ↦
   some ((e.1, ([] ++ ([] ++ e.2.1).set (Int.toNat a.2.2.1) d11).set (Int.toNat a.2.1) d14, e.2.2.1, e.2.2.2.1, e.2.2.2.2.1, e.2.2.2.2.2), (false, [], [], [], 0, 0), [9], [], [(t, n, true, a.2.2.2.2.1, a.1 == 8, e.2.2.2.2.1)])
 else none
 else none
 else bif decide (((List.length (α := I) []) + List.length e.2.2.2.1 + 1) * 16 ≤ lim) then
   bif decide (0 ≤ a.2.2.2.2.1) then
   optC ([] ++ e.2.2.2.1)[Int.toNat a.2.2.2.2.1]? (none) fun d14 ↦
   optC ([] ++ e.2.2.2.1)[Int.toNat a.2.2.2.2.1]? (none) fun d15 ↦
   bif decide (0 ≤ a.2.2.2.1) then
   optC (([] ++ e.2.1).set (Int.toNat a.2.2.1) d11)[Int.toNat a.2.2.2.1]? (none) fun d16 ↦
   optC (([] ++ e.2.1).set (Int.toNat a.2.2.1) d11)[Int.toNat a.2.2.2.1]? (none) fun d17 ↦
   optC (G_itv_Join ([d15, d17], ())) (none) fun d18 ↦
   bif decide (0 ≤ a.2.2.2.2.1) then
   optC ([] ++ e.2.2.2.1)[Int.toNat a.2.2.2.2.1]? (none) fun d19 ↦
   optC ([] ++ e.2.2.2.1)[Int.toNat a.2.2.2.2.1]? (none) fun d20 ↦
   some ((e.1, ([] ++ e.2.1).set (Int.toNat a.2.2.1) d11, e.2.2.1, ([] ++ e.2.2.2.1).set (Int.toNat a.2.2.2.2.1) d18, e.2.2.2.2.1, e.2.2.2.2.2), (false, [], [], [], 0, 0), [9], [], [(t, n, true, a.2.2.2.2.1, a.1 == 8, e.2.2.2.2.1)])
 else none
 else none
 else none
 else none
 else none
 else none
 else bif a.1 == 8 then
   bif decide (0 ≤ a.2.2.2.1) then
   optC e.2.1[Int.toNat a.2.2.2.1]? (none) fun d11 ↦
   optC (G_itv_Meet (d9, (0, Go.IntKind.i64.wrap (d8 - 1)), ())) (none) fun d12 ↦
   bif decide (d12.1 > d12.2) then
   some ((false, [], [], [], 0, 0), (false, [], [], [], 0, 0), [], [(t, true, a.2.2.2.2.1, e.2.2.2.2.1, d11.1, d11.2)], [(t, n, true, a.2.2.2.2.1, a.1 == 8, e.2.2.2.2.1)])
 else bif decide (((List.length (α := I) []) + List.length e.2.1 + 1) * 16 ≤ lim) then
   bif decide (0 ≤ a.2.2.1) then
   optC ([] ++ e.2.1)[Int.toNat a.2.2.1]? (none) fun d13 ↦
   optC ([] ++ e.2.1)[Int.toNat a.2.2.1]? (none) fun d14 ↦
   bif !a.1 == 8 then
   optC (G_flow_Read (u, t, (e.1, ([] ++ e.2.1).set (Int.toNat a.2.2.1) d12, e.2.2), l, true, a.2.2.2.2.1, ())) (none) fun d15 ↦
   bif decide (((List.length (α := I) []) + (([] ++ e.2.1).set (Int.toNat a.2.2.1) d12).length + 1) * 16 ≤ lim) then
   bif decide (0 ≤ a.2.1) then
   optC ([] ++ ([] ++ e.2.1).set (Int.toNat a.2.2.1) d12)[Int.toNat a.2.1]? (none) fun d16 ↦
   optC ([] ++ ([] ++ e.2.1).set (Int.toNat a.2.2.1) d12)[Int.toNat a.2.1]? (none) fun d17 ↦
   some ((e.1, ([] ++ ([] ++ e.2.1).set (Int.toNat a.2.2.1) d12).set (Int.toNat a.2.1) d15, e.2.2.1, e.2.2.2.1, e.2.2.2.2.1, e.2.2.2.2.2), (false, [], [], [], 0, 0), [], [(t, true, a.2.2.2.2.1, e.2.2.2.2.1, d11.1, d11.2)], [(t, n, true, a.2.2.2.2.1, a.1 == 8, e.2.2.2.2.1)])
 else none
 else none
 else bif decide (((List.length (α := I) []) + List.length e.2.2.2.1 + 1) * 16 ≤ lim) then
   bif decide (0 ≤ a.2.2.2.2.1) then
   optC ([] ++ e.2.2.2.1)[Int.toNat a.2.2.2.2.1]? (none) fun d15 ↦
   optC ([] ++ e.2.2.2.1)[Int.toNat a.2.2.2.2.1]? (none) fun d16 ↦
   bif decide (0 ≤ a.2.2.2.1) then
   optC (([] ++ e.2.1).set (Int.toNat a.2.2.1) d12)[Int.toNat a.2.2.2.1]? (none) fun d17 ↦
   optC (([] ++ e.2.1).set (Int.toNat a.2.2.1) d12)[Int.toNat a.2.2.2.1]? (none) fun d18 ↦
   optC (G_itv_Join ([d16, d18], ())) (none) fun d19 ↦
   bif decide (0 ≤ a.2.2.2.2.1) then
   optC ([] ++ e.2.2.2.1)[Int.toNat a.2.2.2.2.1]? (none) fun d20 ↦
   optC ([] ++ e.2.2.2.1)[Int.toNat a.2.2.2.2.1]? (none) fun d21 ↦
   some ((e.1, ([] ++ e.2.1).set (Int.toNat a.2.2.1) d12, e.2.2.1, ([] ++ e.2.2.2.1).set (Int.toNat a.2.2.2.2.1) d19, e.2.2.2.2.1, e.2.2.2.2.2), (false, [], [], [], 0, 0), [], [(t, true, a.2.2.2.2.1, e.2.2.2.2.1, d11.1, d11.2)], [(t, n, true, a.2.2.2.2.1, a.1 == 8, e.2.2.2.2.1)])
 else none
 else none
 else none
 else none
 else none
 else none
 else none
 else optC (G_itv_Meet (d9, (0, Go.IntKind.i64.wrap (d8 - 1)), ())) (none) fun d11 ↦
   bif decide (d11.1 > d11.2) then
   some ((false, [], [], [], 0, 0), (false, [], [], [], 0, 0), [], [], [(t, n, true, a.2.2.2.2.1, a.1 == 8, e.2.2.2.2.1)])
 else bif decide (((List.length (α := I) []) + List.length e.2.1 + 1) * 16 ≤ lim) then
   bif decide (0 ≤ a.2.2.1) then
   optC ([] ++ e.2.1)[Int.toNat a.2.2.1]? (none) fun d12 ↦
   optC ([] ++ e.2.1)[Int.toNat a.2.2.1]? (none) fun d13 ↦
   bif !a.1 == 8 then
   optC (G_flow_Read (u, t, (e.1, ([] ++ e.2.1).set (Int.toNat a.2.2.1) d11, e.2.2), l, true, a.2.2.2.2.1, ())) (none) fun d14 ↦
   bif decide (((List.length (α := I) []) + (([] ++ e.2.1).set (Int.toNat a.2.2.1) d11).length + 1) * 16 ≤ lim) then
   bif decide (0 ≤ a.2.1) then
   optC ([] ++ ([] ++ e.2.1).set (Int.toNat a.2.2.1) d11)[Int.toNat a.2.1]? (none) fun d15 ↦
   optC ([] ++ ([] ++ e.2.1).set (Int.toNat a.2.2.1) d11)[Int.toNat a.2.1]? (none) fun d16 ↦
   some ((e.1, ([] ++ ([] ++ e.2.1).set (Int.toNat a.2.2.1) d11).set (Int.toNat a.2.1) d14, e.2.2.1, e.2.2.2.1, e.2.2.2.2.1, e.2.2.2.2.2), (false, [], [], [], 0, 0), [], [], [(t, n, true, a.2.2.2.2.1, a.1 == 8, e.2.2.2.2.1)])
 else none
 else none
 else bif decide (((List.length (α := I) []) + List.length e.2.2.2.1 + 1) * 16 ≤ lim) then
   bif decide (0 ≤ a.2.2.2.2.1) then
   optC ([] ++ e.2.2.2.1)[Int.toNat a.2.2.2.2.1]? (none) fun d14 ↦
   optC ([] ++ e.2.2.2.1)[Int.toNat a.2.2.2.2.1]? (none) fun d15 ↦
   bif decide (0 ≤ a.2.2.2.1) then
   optC (([] ++ e.2.1).set (Int.toNat a.2.2.1) d11)[Int.toNat a.2.2.2.1]? (none) fun d16 ↦
   optC (([] ++ e.2.1).set (Int.toNat a.2.2.1) d11)[Int.toNat a.2.2.2.1]? (none) fun d17 ↦
   optC (G_itv_Join ([d15, d17], ())) (none) fun d18 ↦
   bif decide (0 ≤ a.2.2.2.2.1) then
   optC ([] ++ e.2.2.2.1)[Int.toNat a.2.2.2.2.1]? (none) fun d19 ↦
   optC ([] ++ e.2.2.2.1)[Int.toNat a.2.2.2.2.1]? (none) fun d20 ↦
   some ((e.1, ([] ++ e.2.1).set (Int.toNat a.2.2.1) d11, e.2.2.1, ([] ++ e.2.2.2.1).set (Int.toNat a.2.2.2.2.1) d18, e.2.2.2.2.1, e.2.2.2.2.2), (false, [], [], [], 0, 0), [], [], [(t, n, true, a.2.2.2.2.1, a.1 == 8, e.2.2.2.2.1)])
 else none
 else none
 else none
 else none
 else none
 else none
 else none
 else none
 else bif a.1 == 9 then
   optC (G_held_Has (e.2.2.2.2.2, a.2.2.2.2.1, ())) (none) fun d8 ↦
   bif d8 then
   optC (G_held_Has (e.2.2.2.2.1, a.2.2.2.2.1, ())) (none) fun d9 ↦
   bif d9 then
   some ((false, [], [], [], 0, 0), (false, [], [], [], 0, 0), [11], [], [])
 else optC (G_flow_deed_gains ((a.1, a.2.1, a.2.2.1, a.2.2.2.1, a.2.2.2.2.1, a.2.2.2.2.2.1, a.2.2.2.2.2.2.1, a.2.2.2.2.2.2.2.1, a.2.2.2.2.2.2.2.2, u.1, u.2.1, u.2.2.1, u.2.2.2, t, n, e.1, e.2.1, e.2.2.1, e.2.2.2.1, e.2.2.2.2.1, e.2.2.2.2.2, l, false, [], [], [], 0, 0, false, [], [], [], 0, 0, [11], [], [], ()), e.2.2.1, false, ())) (none) fun d10 ↦
   optC (G_flow_deed_gains ((a.1, a.2.1, a.2.2.1, a.2.2.2.1, a.2.2.2.2.1, a.2.2.2.2.2.1, a.2.2.2.2.2.2.1, a.2.2.2.2.2.2.2.1, a.2.2.2.2.2.2.2.2, u.1, u.2.1, u.2.2.1, u.2.2.2, t, n, e.1, e.2.1, e.2.2.1, e.2.2.2.1, e.2.2.2.2.1, e.2.2.2.2.2, l, false, [], [], [], 0, 0, false, [], [], [], 0, 0, [11], [], [], ()), e.2.2.2.1, true, ())) (none) fun d11 ↦
   optC (G_held_With (e.2.2.2.2.1, [a.2.2.2.2.1], ())) (none) fun d12 ↦
   optC (G_held_With (e.2.2.2.2.2, [a.2.2.2.2.1], ())) (none) fun d13 ↦
   some ((e.1, e.2.1, d10, d11, d12, d13), (false, [], [], [], 0, 0), [11], [], [])
 else optC (G_held_Has (e.2.2.2.2.1, a.2.2.2.2.1, ())) (none) fun d9 ↦
   bif d9 then
   some ((false, [], [], [], 0, 0), (false, [], [], [], 0, 0), [], [], [])
 else optC (G_flow_deed_gains ((a.1, a.2.1, a.2.2.1, a.2.2.2.1, a.2.2.2.2.1, a.2.2.2.2.2.1, a.2.2.2.2.2.2.1, a.2.2.2.2.2.2.2.1, a.2.2.2.2.2.2.2.2, u.1, u.2.1, u.2.2.1, u.2.2.2, t, n, e.1, e.2.1, e.2.2.1, e.2.2.2.1, e.2.2.2.2.1, e.2.2.2.2.2, l, false, [], [], [], 0, 0, false, [], [], [], 0, 0, [], [], [], ()), e.2.2.1, false, ())) (none) fun d10 ↦
   optC (G_flow_deed_gains ((a.1, a.2.1, a.2.2.1, a.2.2.2.1, a.2.2.2.2.1, a.2.2.2.2.2.1, a.2.2.2.2.2.2.1, a.2.2.2.2.2.2.2.1, a.2.2.2.2.2.2.2.2, u.1, u.2.1, u.2.2.1, u.2.2.2, t, n, e.1, e.2.1, e.2.2.1, e.2.2.2.1, e.2.2.2.2.1, e.2.2.2.2.2, l, false, [], [], [], 0, 0, false, [], [], [], 0, 0, [], [], [], ()), e.2.2.2.1, true, ())) (none) fun d11 ↦
   optC (G_held_With (e.2.2.2.2.1, [a.2.2.2.2.1], ())) (none) fun d12 ↦
   optC (G_held_With (e.2.2.2.2.2, [a.2.2.2.2.1], ())) (none) fun d13 ↦
   some ((e.1, e.2.1, d10, d11, d12, d13), (false, [], [], [], 0, 0), [], [], [])
 else bif a.1 == 10 then
   optC (G_held_Has (e.2.2.2.2.1, a.2.2.2.2.1, ())) (none) fun d8 ↦
   bif !d8 then
   optC (G_held_Has (e.2.2.2.2.2, a.2.2.2.2.1, ())) (none) fun d9 ↦
   bif !d9 then
   some ((false, [], [], [], 0, 0), (false, [], [], [], 0, 0), [12], [], [])
 else optC (G_held_Without (e.2.2.2.2.1, [a.2.2.2.2.1], ())) (none) fun d10 ↦
   optC (G_held_Without (e.2.2.2.2.2, [a.2.2.2.2.1], ())) (none) fun d11 ↦
   some ((e.1, e.2.1, e.2.2.1, e.2.2.2.1, d10, d11), (false, [], [], [], 0, 0), [12], [], [])
 else optC (G_held_Has (e.2.2.2.2.2, a.2.2.2.2.1, ())) (none) fun d9 ↦
   bif !d9 then
   some ((false, [], [], [], 0, 0), (false, [], [], [], 0, 0), [], [], [])
 else optC (G_held_Without (e.2.2.2.2.1, [a.2.2.2.2.1], ())) (none) fun d10 ↦
   optC (G_held_Without (e.2.2.2.2.2, [a.2.2.2.2.1], ())) (none) fun d11 ↦
   some ((e.1, e.2.1, e.2.2.1, e.2.2.2.1, d10, d11), (false, [], [], [], 0, 0), [], [], [])
 else bif a.1 == 11 then
   bif decide (0 ≤ a.2.2.1) then
   optC e.2.1[Int.toNat a.2.2.1]? (none) fun d8 ↦
   bif decide (0 ≤ a.2.2.2.1) then
   optC e.2.1[Int.toNat a.2.2.2.1]? (none) fun d9 ↦
   optC (G_itv_Refine (a.2.2.2.2.2.2.1, d8, d9, ())) (none) fun d10 ↦
   bif a.2.2.1 == a.2.2.2.1 then
   optC (G_itv_Meet (d10.1, d10.2.1, ())) (none) fun d11 ↦
   bif decide (d11.1 > d11.2) then
   optC (G_num_Not (a.2.2.2.2.2.2.1, ())) (none) fun d12 ↦
   bif decide (0 ≤ a.2.2.1) then
   optC e.2.1[Int.toNat a.2.2.1]? (none) fun d13 ↦
   bif decide (0 ≤ a.2.2.2.1) then
   optC e.2.1[Int.toNat a.2.2.2.1]? (none) fun d14 ↦
   optC (G_itv_Refine (d12, d13, d14, ())) (none) fun d15 ↦
   bif a.2.2.1 == a.2.2.2.1 then
   optC (G_itv_Meet (d15.1, d15.2.1, ())) (none) fun d16 ↦
   bif decide (d16.1 > d16.2) then
   some ((false, [], [], [], 0, 0), (false, [], [], [], 0, 0), [], [], [])
 else bif decide (d16.1 > d16.2) then
   some ((false, [], [], [], 0, 0), (false, [], [], [], 0, 0), [], [], [])
 else bif decide (((List.length (α := I) []) + List.length e.2.1 + 1) * 16 ≤ lim) then
   bif decide (0 ≤ a.2.2.1) then
   optC ([] ++ e.2.1)[Int.toNat a.2.2.1]? (none) fun d17 ↦
   optC ([] ++ e.2.1)[Int.toNat a.2.2.1]? (none) fun d18 ↦
   bif decide (0 ≤ a.2.2.2.1) then
   optC (([] ++ e.2.1).set (Int.toNat a.2.2.1) d16)[Int.toNat a.2.2.2.1]? (none) fun d19 ↦
   optC (([] ++ e.2.1).set (Int.toNat a.2.2.1) d16)[Int.toNat a.2.2.2.1]? (none) fun d20 ↦
   some ((false, [], [], [], 0, 0), (e.1, (([] ++ e.2.1).set (Int.toNat a.2.2.1) d16).set (Int.toNat a.2.2.2.1) d16, e.2.2.1, e.2.2.2.1, e.2.2.2.2.1, e.2.2.2.2.2), [], [], [])
 else none
 else none
 else none
 else bif decide (d15.1.1 > d15.1.2) then
   some ((false, [], [], [], 0, 0), (false, [], [], [], 0, 0), [], [], [])
 else bif decide (d15.2.1.1 > d15.2.1.2) then
   some ((false, [], [], [], 0, 0), (false, [], [], [], 0, 0), [], [], [])
 else bif decide (((List.length (α := I) []) + List.length e.2.1 + 1) * 16 ≤ lim) then
   bif decide (0 ≤ a.2.2.1) then
   optC ([] ++ e.2.1)[Int.toNat a.2.2.1]? (none) fun d16 ↦
   optC ([] ++ e.2.1)[Int.toNat a.2.2.1]? (none) fun d17 ↦
   bif decide (0 ≤ a.2.2.2.1) then
   optC (([] ++ e.2.1).set (Int.toNat a.2.2.1) d15.1)[Int.toNat a.2.2.2.1]? (none) fun d18 ↦
   optC (([] ++ e.2.1).set (Int.toNat a.2.2.1) d15.1)[Int.toNat a.2.2.2.1]? (none) fun d19 ↦
   some ((false, [], [], [], 0, 0), (e.1, (([] ++ e.2.1).set (Int.toNat a.2.2.1) d15.1).set (Int.toNat a.2.2.2.1) d15.2.1, e.2.2.1, e.2.2.2.1, e.2.2.2.2.1, e.2.2.2.2.2), [], [], [])
 else none
 else none
 else none
 else none
 else none
 else bif decide (d11.1 > d11.2) then
   optC (G_num_Not (a.2.2.2.2.2.2.1, ())) (none) fun d12 ↦
   bif decide (0 ≤ a.2.2.1) then
   optC e.2.1[Int.toNat a.2.2.1]? (none) fun d13 ↦
   bif decide (0 ≤ a.2.2.2.1) then
   optC e.2.1[Int.toNat a.2.2.2.1]? (none) fun d14 ↦
   optC (G_itv_Refine (d12, d13, d14, ())) (none) fun d15 ↦
   bif a.2.2.1 == a.2.2.2.1 then
   optC (G_itv_Meet (d15.1, d15.2.1, ())) (none) fun d16 ↦
   bif decide (d16.1 > d16.2) then
   some ((false, [], [], [], 0, 0), (false, [], [], [], 0, 0), [], [], [])
 else bif decide (d16.1 > d16.2) then
   some ((false, [], [], [], 0, 0), (false, [], [], [], 0, 0), [], [], [])
 else bif decide (((List.length (α := I) []) + List.length e.2.1 + 1) * 16 ≤ lim) then
   bif decide (0 ≤ a.2.2.1) then
   optC ([] ++ e.2.1)[Int.toNat a.2.2.1]? (none) fun d17 ↦
   optC ([] ++ e.2.1)[Int.toNat a.2.2.1]? (none) fun d18 ↦
   bif decide (0 ≤ a.2.2.2.1) then
   optC (([] ++ e.2.1).set (Int.toNat a.2.2.1) d16)[Int.toNat a.2.2.2.1]? (none) fun d19 ↦
   optC (([] ++ e.2.1).set (Int.toNat a.2.2.1) d16)[Int.toNat a.2.2.2.1]? (none) fun d20 ↦
   some ((false, [], [], [], 0, 0), (e.1, (([] ++ e.2.1).set (Int.toNat a.2.2.1) d16).set (Int.toNat a.2.2.2.1) d16, e.2.2.1, e.2.2.2.1, e.2.2.2.2.1, e.2.2.2.2.2), [], [], [])
 else none
 else none
 else none
 else bif decide (d15.1.1 > d15.1.2) then
   some ((false, [], [], [], 0, 0), (false, [], [], [], 0, 0), [], [], [])
 else bif decide (d15.2.1.1 > d15.2.1.2) then
   some ((false, [], [], [], 0, 0), (false, [], [], [], 0, 0), [], [], [])
 else bif decide (((List.length (α := I) []) + List.length e.2.1 + 1) * 16 ≤ lim) then
   bif decide (0 ≤ a.2.2.1) then
   optC ([] ++ e.2.1)[Int.toNat a.2.2.1]? (none) fun d16 ↦
   optC ([] ++ e.2.1)[Int.toNat a.2.2.1]? (none) fun d17 ↦
   bif decide (0 ≤ a.2.2.2.1) then
   optC (([] ++ e.2.1).set (Int.toNat a.2.2.1) d15.1)[Int.toNat a.2.2.2.1]? (none) fun d18 ↦
   optC (([] ++ e.2.1).set (Int.toNat a.2.2.1) d15.1)[Int.toNat a.2.2.2.1]? (none) fun d19 ↦
   some ((false, [], [], [], 0, 0), (e.1, (([] ++ e.2.1).set (Int.toNat a.2.2.1) d15.1).set (Int.toNat a.2.2.2.1) d15.2.1, e.2.2.1, e.2.2.2.1, e.2.2.2.2.1, e.2.2.2.2.2), [], [], [])
 else none
 else none
 else none
 else none
 else none
 else bif decide (((List.length (α := I) []) + List.length e.2.1 + 1) * 16 ≤ lim) then
   bif decide (0 ≤ a.2.2.1) then
   optC ([] ++ e.2.1)[Int.toNat a.2.2.1]? (none) fun d12 ↦
   optC ([] ++ e.2.1)[Int.toNat a.2.2.1]? (none) fun d13 ↦
   bif decide (0 ≤ a.2.2.2.1) then
   optC (([] ++ e.2.1).set (Int.toNat a.2.2.1) d11)[Int.toNat a.2.2.2.1]? (none) fun d14 ↦
   optC (([] ++ e.2.1).set (Int.toNat a.2.2.1) d11)[Int.toNat a.2.2.2.1]? (none) fun d15 ↦
   optC (G_num_Not (a.2.2.2.2.2.2.1, ())) (none) fun d16 ↦
   bif decide (0 ≤ a.2.2.1) then
   optC e.2.1[Int.toNat a.2.2.1]? (none) fun d17 ↦
   bif decide (0 ≤ a.2.2.2.1) then
   optC e.2.1[Int.toNat a.2.2.2.1]? (none) fun d18 ↦
   optC (G_itv_Refine (d16, d17, d18, ())) (none) fun d19 ↦
   bif a.2.2.1 == a.2.2.2.1 then
   optC (G_itv_Meet (d19.1, d19.2.1, ())) (none) fun d20 ↦
   bif decide (d20.1 > d20.2) then
   some ((e.1, (([] ++ e.2.1).set (Int.toNat a.2.2.1) d11).set (Int.toNat a.2.2.2.1) d11, e.2.2.1, e.2.2.2.1, e.2.2.2.2.1, e.2.2.2.2.2), (false, [], [], [], 0, 0), [], [], [])
 else bif decide (d20.1 > d20.2) then
   some ((e.1, (([] ++ e.2.1).set (Int.toNat a.2.2.1) d11).set (Int.toNat a.2.2.2.1) d11, e.2.2.1, e.2.2.2.1, e.2.2.2.2.1, e.2.2.2.2.2), (false, [], [], [], 0, 0), [], [], [])
 else bif decide (((List.length (α := I) []) + List.length e.2.1 + 1) * 16 ≤ lim) then
   bif decide (0 ≤ a.2.2.1) then
   optC ([] ++ e.2.1)[Int.toNat a.2.2.1]? (none) fun d21 ↦
   optC ([] ++ e.2.1)[Int.toNat a.2.2.1]? (none) fun d22 ↦
   bif decide (0 ≤ a.2.2.2.1) then
   optC (([] ++ e.2.1).set (Int.toNat a.2.2.1) d20)[Int.toNat a.2.2.2.1]? (none) fun d23 ↦
   optC (([] ++ e.2.1).set (Int.toNat a.2.2.1) d20)[Int.toNat a.2.2.2.1]? (none) fun d24 ↦
   some ((e.1, (([] ++ e.2.1).set (Int.toNat a.2.2.1) d11).set (Int.toNat a.2.2.2.1) d11, e.2.2.1, e.2.2.2.1, e.2.2.2.2.1, e.2.2.2.2.2), (e.1, (([] ++ e.2.1).set (Int.toNat a.2.2.1) d20).set (Int.toNat a.2.2.2.1) d20, e.2.2.1, e.2.2.2.1, e.2.2.2.2.1, e.2.2.2.2.2), [], [], [])
 else none
 else none
 else none
 else bif decide (d19.1.1 > d19.1.2) then
   some ((e.1, (([] ++ e.2.1).set (Int.toNat a.2.2.1) d11).set (Int.toNat a.2.2.2.1) d11, e.2.2.1, e.2.2.2.1, e.2.2.2.2.1, e.2.2.2.2.2), (false, [], [], [], 0, 0), [], [], [])
 else bif decide (d19.2.1.1 > d19.2.1.2) then
   some ((e.1, (([] ++ e.2.1).set (Int.toNat a.2.2.1) d11).set (Int.toNat a.2.2.2.1) d11, e.2.2.1, e.2.2.2.1, e.2.2.2.2.1, e.2.2.2.2.2), (false, [], [], [], 0, 0), [], [], [])
 else bif decide (((List.length (α := I) []) + List.length e.2.1 + 1) * 16 ≤ lim) then
   bif decide (0 ≤ a.2.2.1) then
   optC ([] ++ e.2.1)[Int.toNat a.2.2.1]? (none) fun d20 ↦
   optC ([] ++ e.2.1)[Int.toNat a.2.2.1]? (none) fun d21 ↦
   bif decide (0 ≤ a.2.2.2.1) then
   optC (([] ++ e.2.1).set (Int.toNat a.2.2.1) d19.1)[Int.toNat a.2.2.2.1]? (none) fun d22 ↦
   optC (([] ++ e.2.1).set (Int.toNat a.2.2.1) d19.1)[Int.toNat a.2.2.2.1]? (none) fun d23 ↦
   some ((e.1, (([] ++ e.2.1).set (Int.toNat a.2.2.1) d11).set (Int.toNat a.2.2.2.1) d11, e.2.2.1, e.2.2.2.1, e.2.2.2.2.1, e.2.2.2.2.2), (e.1, (([] ++ e.2.1).set (Int.toNat a.2.2.1) d19.1).set (Int.toNat a.2.2.2.1) d19.2.1, e.2.2.1, e.2.2.2.1, e.2.2.2.2.1, e.2.2.2.2.2), [], [], [])
 else none
 else none
 else none
 else none
 else none
 else none
 else none
 else none
 else bif decide (d10.1.1 > d10.1.2) then
   optC (G_num_Not (a.2.2.2.2.2.2.1, ())) (none) fun d11 ↦
   bif decide (0 ≤ a.2.2.1) then
   optC e.2.1[Int.toNat a.2.2.1]? (none) fun d12 ↦
   bif decide (0 ≤ a.2.2.2.1) then
   optC e.2.1[Int.toNat a.2.2.2.1]? (none) fun d13 ↦
   optC (G_itv_Refine (d11, d12, d13, ())) (none) fun d14 ↦
   bif a.2.2.1 == a.2.2.2.1 then
   optC (G_itv_Meet (d14.1, d14.2.1, ())) (none) fun d15 ↦
   bif decide (d15.1 > d15.2) then
   some ((false, [], [], [], 0, 0), (false, [], [], [], 0, 0), [], [], [])
 else bif decide (d15.1 > d15.2) then
   some ((false, [], [], [], 0, 0), (false, [], [], [], 0, 0), [], [], [])
 else bif decide (((List.length (α := I) []) + List.length e.2.1 + 1) * 16 ≤ lim) then
   bif decide (0 ≤ a.2.2.1) then
   optC ([] ++ e.2.1)[Int.toNat a.2.2.1]? (none) fun d16 ↦
   optC ([] ++ e.2.1)[Int.toNat a.2.2.1]? (none) fun d17 ↦
   bif decide (0 ≤ a.2.2.2.1) then
   optC (([] ++ e.2.1).set (Int.toNat a.2.2.1) d15)[Int.toNat a.2.2.2.1]? (none) fun d18 ↦
   optC (([] ++ e.2.1).set (Int.toNat a.2.2.1) d15)[Int.toNat a.2.2.2.1]? (none) fun d19 ↦
   some ((false, [], [], [], 0, 0), (e.1, (([] ++ e.2.1).set (Int.toNat a.2.2.1) d15).set (Int.toNat a.2.2.2.1) d15, e.2.2.1, e.2.2.2.1, e.2.2.2.2.1, e.2.2.2.2.2), [], [], [])
 else none
 else none
 else none
 else bif decide (d14.1.1 > d14.1.2) then
   some ((false, [], [], [], 0, 0), (false, [], [], [], 0, 0), [], [], [])
 else bif decide (d14.2.1.1 > d14.2.1.2) then
   some ((false, [], [], [], 0, 0), (false, [], [], [], 0, 0), [], [], [])
 else bif decide (((List.length (α := I) []) + List.length e.2.1 + 1) * 16 ≤ lim) then
   bif decide (0 ≤ a.2.2.1) then
   optC ([] ++ e.2.1)[Int.toNat a.2.2.1]? (none) fun d15 ↦
   optC ([] ++ e.2.1)[Int.toNat a.2.2.1]? (none) fun d16 ↦
   bif decide (0 ≤ a.2.2.2.1) then
   optC (([] ++ e.2.1).set (Int.toNat a.2.2.1) d14.1)[Int.toNat a.2.2.2.1]? (none) fun d17 ↦
   optC (([] ++ e.2.1).set (Int.toNat a.2.2.1) d14.1)[Int.toNat a.2.2.2.1]? (none) fun d18 ↦
   some ((false, [], [], [], 0, 0), (e.1, (([] ++ e.2.1).set (Int.toNat a.2.2.1) d14.1).set (Int.toNat a.2.2.2.1) d14.2.1, e.2.2.1, e.2.2.2.1, e.2.2.2.2.1, e.2.2.2.2.2), [], [], [])
 else none
 else none
 else none
 else none
 else none
 else bif decide (d10.2.1.1 > d10.2.1.2) then
   optC (G_num_Not (a.2.2.2.2.2.2.1, ())) (none) fun d11 ↦
   bif decide (0 ≤ a.2.2.1) then
   optC e.2.1[Int.toNat a.2.2.1]? (none) fun d12 ↦
   bif decide (0 ≤ a.2.2.2.1) then
   optC e.2.1[Int.toNat a.2.2.2.1]? (none) fun d13 ↦
   optC (G_itv_Refine (d11, d12, d13, ())) (none) fun d14 ↦
   bif a.2.2.1 == a.2.2.2.1 then
   optC (G_itv_Meet (d14.1, d14.2.1, ())) (none) fun d15 ↦
   bif decide (d15.1 > d15.2) then
   some ((false, [], [], [], 0, 0), (false, [], [], [], 0, 0), [], [], [])
 else bif decide (d15.1 > d15.2) then
   some ((false, [], [], [], 0, 0), (false, [], [], [], 0, 0), [], [], [])
 else bif decide (((List.length (α := I) []) + List.length e.2.1 + 1) * 16 ≤ lim) then
   bif decide (0 ≤ a.2.2.1) then
   optC ([] ++ e.2.1)[Int.toNat a.2.2.1]? (none) fun d16 ↦
   optC ([] ++ e.2.1)[Int.toNat a.2.2.1]? (none) fun d17 ↦
   bif decide (0 ≤ a.2.2.2.1) then
   optC (([] ++ e.2.1).set (Int.toNat a.2.2.1) d15)[Int.toNat a.2.2.2.1]? (none) fun d18 ↦
   optC (([] ++ e.2.1).set (Int.toNat a.2.2.1) d15)[Int.toNat a.2.2.2.1]? (none) fun d19 ↦
   some ((false, [], [], [], 0, 0), (e.1, (([] ++ e.2.1).set (Int.toNat a.2.2.1) d15).set (Int.toNat a.2.2.2.1) d15, e.2.2.1, e.2.2.2.1, e.2.2.2.2.1, e.2.2.2.2.2), [], [], [])
 else none
 else none
 else none
 else bif decide (d14.1.1 > d14.1.2) then
   some ((false, [], [], [], 0, 0), (false, [], [], [], 0, 0), [], [], [])
 else bif decide (d14.2.1.1 > d14.2.1.2) then
   some ((false, [], [], [], 0, 0), (false, [], [], [], 0, 0), [], [], [])
 else bif decide (((List.length (α := I) []) + List.length e.2.1 + 1) * 16 ≤ lim) then
   bif decide (0 ≤ a.2.2.1) then
   optC ([] ++ e.2.1)[Int.toNat a.2.2.1]? (none) fun d15 ↦
   optC ([] ++ e.2.1)[Int.toNat a.2.2.1]? (none) fun d16 ↦
   bif decide (0 ≤ a.2.2.2.1) then
   optC (([] ++ e.2.1).set (Int.toNat a.2.2.1) d14.1)[Int.toNat a.2.2.2.1]? (none) fun d17 ↦
   optC (([] ++ e.2.1).set (Int.toNat a.2.2.1) d14.1)[Int.toNat a.2.2.2.1]? (none) fun d18 ↦
   some ((false, [], [], [], 0, 0), (e.1, (([] ++ e.2.1).set (Int.toNat a.2.2.1) d14.1).set (Int.toNat a.2.2.2.1) d14.2.1, e.2.2.1, e.2.2.2.1, e.2.2.2.2.1, e.2.2.2.2.2), [], [], [])
 else none
 else none
 else none
 else none
 else none
 else bif decide (((List.length (α := I) []) + List.length e.2.1 + 1) * 16 ≤ lim) then
   bif decide (0 ≤ a.2.2.1) then
   optC ([] ++ e.2.1)[Int.toNat a.2.2.1]? (none) fun d11 ↦
   optC ([] ++ e.2.1)[Int.toNat a.2.2.1]? (none) fun d12 ↦
   bif decide (0 ≤ a.2.2.2.1) then
   optC (([] ++ e.2.1).set (Int.toNat a.2.2.1) d10.1)[Int.toNat a.2.2.2.1]? (none) fun d13 ↦
   optC (([] ++ e.2.1).set (Int.toNat a.2.2.1) d10.1)[Int.toNat a.2.2.2.1]? (none) fun d14 ↦
   optC (G_num_Not (a.2.2.2.2.2.2.1, ())) (none) fun d15 ↦
   bif decide (0 ≤ a.2.2.1) then
   optC e.2.1[Int.toNat a.2.2.1]? (none) fun d16 ↦
   bif decide (0 ≤ a.2.2.2.1) then
   optC e.2.1[Int.toNat a.2.2.2.1]? (none) fun d17 ↦
   optC (G_itv_Refine (d15, d16, d17, ())) (none) fun d18 ↦
   bif a.2.2.1 == a.2.2.2.1 then
   optC (G_itv_Meet (d18.1, d18.2.1, ())) (none) fun d19 ↦
   bif decide (d19.1 > d19.2) then
   some ((e.1, (([] ++ e.2.1).set (Int.toNat a.2.2.1) d10.1).set (Int.toNat a.2.2.2.1) d10.2.1, e.2.2.1, e.2.2.2.1, e.2.2.2.2.1, e.2.2.2.2.2), (false, [], [], [], 0, 0), [], [], [])
 else bif decide (d19.1 > d19.2) then
   some ((e.1, (([] ++ e.2.1).set (Int.toNat a.2.2.1) d10.1).set (Int.toNat a.2.2.2.1) d10.2.1, e.2.2.1, e.2.2.2.1, e.2.2.2.2.1, e.2.2.2.2.2), (false, [], [], [], 0, 0), [], [], [])
 else bif decide (((List.length (α := I) []) + List.length e.2.1 + 1) * 16 ≤ lim) then
   bif decide (0 ≤ a.2.2.1) then
   optC ([] ++ e.2.1)[Int.toNat a.2.2.1]? (none) fun d20 ↦
   optC ([] ++ e.2.1)[Int.toNat a.2.2.1]? (none) fun d21 ↦
   bif decide (0 ≤ a.2.2.2.1) then
   optC (([] ++ e.2.1).set (Int.toNat a.2.2.1) d19)[Int.toNat a.2.2.2.1]? (none) fun d22 ↦
   optC (([] ++ e.2.1).set (Int.toNat a.2.2.1) d19)[Int.toNat a.2.2.2.1]? (none) fun d23 ↦
   some ((e.1, (([] ++ e.2.1).set (Int.toNat a.2.2.1) d10.1).set (Int.toNat a.2.2.2.1) d10.2.1, e.2.2.1, e.2.2.2.1, e.2.2.2.2.1, e.2.2.2.2.2), (e.1, (([] ++ e.2.1).set (Int.toNat a.2.2.1) d19).set (Int.toNat a.2.2.2.1) d19, e.2.2.1, e.2.2.2.1, e.2.2.2.2.1, e.2.2.2.2.2), [], [], [])
 else none
 else none
 else none
 else bif decide (d18.1.1 > d18.1.2) then
   some ((e.1, (([] ++ e.2.1).set (Int.toNat a.2.2.1) d10.1).set (Int.toNat a.2.2.2.1) d10.2.1, e.2.2.1, e.2.2.2.1, e.2.2.2.2.1, e.2.2.2.2.2), (false, [], [], [], 0, 0), [], [], [])
 else bif decide (d18.2.1.1 > d18.2.1.2) then
   some ((e.1, (([] ++ e.2.1).set (Int.toNat a.2.2.1) d10.1).set (Int.toNat a.2.2.2.1) d10.2.1, e.2.2.1, e.2.2.2.1, e.2.2.2.2.1, e.2.2.2.2.2), (false, [], [], [], 0, 0), [], [], [])
 else bif decide (((List.length (α := I) []) + List.length e.2.1 + 1) * 16 ≤ lim) then
   bif decide (0 ≤ a.2.2.1) then
   optC ([] ++ e.2.1)[Int.toNat a.2.2.1]? (none) fun d19 ↦
   optC ([] ++ e.2.1)[Int.toNat a.2.2.1]? (none) fun d20 ↦
   bif decide (0 ≤ a.2.2.2.1) then
   optC (([] ++ e.2.1).set (Int.toNat a.2.2.1) d18.1)[Int.toNat a.2.2.2.1]? (none) fun d21 ↦
   optC (([] ++ e.2.1).set (Int.toNat a.2.2.1) d18.1)[Int.toNat a.2.2.2.1]? (none) fun d22 ↦
   some ((e.1, (([] ++ e.2.1).set (Int.toNat a.2.2.1) d10.1).set (Int.toNat a.2.2.2.1) d10.2.1, e.2.2.1, e.2.2.2.1, e.2.2.2.2.1, e.2.2.2.2.2), (e.1, (([] ++ e.2.1).set (Int.toNat a.2.2.1) d18.1).set (Int.toNat a.2.2.2.1) d18.2.1, e.2.2.1, e.2.2.2.1, e.2.2.2.2.1, e.2.2.2.2.2), [], [], [])
 else none
 else none
 else none
 else none
 else none
 else none
 else none
 else none
 else none
 else none
 else bif a.1 == 12 then
   some ((e.1, e.2.1, e.2.2.1, e.2.2.2.1, e.2.2.2.2.1, e.2.2.2.2.2), (false, [], [], [], 0, 0), [], [], [])
 else bif a.1 == 13 then
   some ((false, [], [], [], 0, 0), (false, [], [], [], 0, 0), [10], [], [])
 else some ((false, [], [], [], 0, 0), (false, [], [], [], 0, 0), [], [], [])
theorem bF_at (u : U) (t n : Int) (e : E) (l : List En) (c : C) (a : A) (h0 : 0 ≤ t) (hc : u.2.2.2[t.toNat]? = some c) (h1 : 0 ≤ n) (ha : c.2[n.toNat]? = some a) (he : e.1 = true) : g_flow_Do u t n e l = bF u t n e l c a := by
  have e0 : decide (0 ≤ t) = true := decide_eq_true h0
  have e1 : decide (0 ≤ n) = true := decide_eq_true h1
  have e2 : (!e.1) = false := by rw [he]; rfl
  unfold g_flow_Do
  rw [e0, hc, e1, cond_true, optC_some, cond_true, ha, optC_some]
  show (bif e.1 then _ else _) = _
  
  exact (congrArg (fun b => bif b then bF u t n e l c a else _) he)
theorem F_1 (u : U) (t n : Int) (e : E) (l : List En) (c : C) (T X Y G N op nx el : Int) : bF u t n e l c (1, T, X, Y, G, N, op, nx, el) =
  optC (G_itv_Of ([N], ())) (none) fun d8 ↦
   bif decide (((List.length (α := I) []) + List.length e.2.1 + 1) * 16 ≤ lim) then
   bif decide (0 ≤ T) then
   optC ([] ++ e.2.1)[Int.toNat T]? (none) fun d9 ↦
   optC ([] ++ e.2.1)[Int.toNat T]? (none) fun d10 ↦
   some ((e.1, ([] ++ e.2.1).set (Int.toNat T) d8, e.2.2.1, e.2.2.2.1, e.2.2.2.2.1, e.2.2.2.2.2), (false, [], [], [], 0, 0), [], [], [])
 else none
 else none := by kernel_rfl
theorem F_2 (u : U) (t n : Int) (e : E) (l : List En) (c : C) (T X Y G N op nx el : Int) : bF u t n e l c (2, T, X, Y, G, N, op, nx, el) =
  bif decide (0 ≤ X) then
   optC e.2.1[Int.toNat X]? (none) fun d8 ↦
   bif decide (((List.length (α := I) []) + List.length e.2.1 + 1) * 16 ≤ lim) then
   bif decide (0 ≤ T) then
   optC ([] ++ e.2.1)[Int.toNat T]? (none) fun d9 ↦
   optC ([] ++ e.2.1)[Int.toNat T]? (none) fun d10 ↦
   some ((e.1, ([] ++ e.2.1).set (Int.toNat T) d8, e.2.2.1, e.2.2.2.1, e.2.2.2.2.1, e.2.2.2.2.2), (false, [], [], [], 0, 0), [], [], [])
 else none
 else none
 else none := by kernel_rfl
theorem F_3 (u : U) (t n : Int) (e : E) (l : List En) (c : C) (T X Y G N op nx el : Int) : bF u t n e l c (3, T, X, Y, G, N, op, nx, el) =
  bif decide (((List.length (α := I) []) + List.length e.2.1 + 1) * 16 ≤ lim) then
   bif decide (0 ≤ T) then
   optC ([] ++ e.2.1)[Int.toNat T]? (none) fun d8 ↦
   optC ([] ++ e.2.1)[Int.toNat T]? (none) fun d9 ↦
   some ((e.1, ([] ++ e.2.1).set (Int.toNat T) (-2147483648, 2147483647), e.2.2.1, e.2.2.2.1, e.2.2.2.2.1, e.2.2.2.2.2), (false, [], [], [], 0, 0), [], [], [])
 else none
 else none := by kernel_rfl
theorem F_4 (u : U) (t n : Int) (e : E) (l : List En) (c : C) (T X Y G N op nx el : Int) : bF u t n e l c (4, T, X, Y, G, N, op, nx, el) =
  bif decide (0 ≤ X) then
   optC e.2.1[Int.toNat X]? (none) fun d8 ↦
   bif decide (0 ≤ Y) then
   optC e.2.1[Int.toNat Y]? (none) fun d9 ↦
   optC (G_itv_Do (op, d8, d9, ())) (none) fun d10 ↦
   bif d10.2.1 then
   bif d10.2.2.1 then
   bif !decide (d10.1.1 > d10.1.2) then
   bif decide (((List.length (α := I) []) + List.length e.2.1 + 1) * 16 ≤ lim) then
   bif decide (0 ≤ T) then
   optC ([] ++ e.2.1)[Int.toNat T]? (none) fun d11 ↦
   optC ([] ++ e.2.1)[Int.toNat T]? (none) fun d12 ↦
   some ((e.1, ([] ++ e.2.1).set (Int.toNat T) d10.1, e.2.2.1, e.2.2.2.1, e.2.2.2.2.1, e.2.2.2.2.2), (false, [], [], [], 0, 0), [7, 8], [], [])
 else none
 else none
 else some ((false, [], [], [], 0, 0), (false, [], [], [], 0, 0), [7, 8], [], [])
 else bif !decide (d10.1.1 > d10.1.2) then
   bif decide (((List.length (α := I) []) + List.length e.2.1 + 1) * 16 ≤ lim) then
   bif decide (0 ≤ T) then
   optC ([] ++ e.2.1)[Int.toNat T]? (none) fun d11 ↦
   optC ([] ++ e.2.1)[Int.toNat T]? (none) fun d12 ↦
   some ((e.1, ([] ++ e.2.1).set (Int.toNat T) d10.1, e.2.2.1, e.2.2.2.1, e.2.2.2.2.1, e.2.2.2.2.2), (false, [], [], [], 0, 0), [7], [], [])
 else none
 else none
 else some ((false, [], [], [], 0, 0), (false, [], [], [], 0, 0), [7], [], [])
 else bif d10.2.2.1 then
   bif !decide (d10.1.1 > d10.1.2) then
   bif decide (((List.length (α := I) []) + List.length e.2.1 + 1) * 16 ≤ lim) then
   bif decide (0 ≤ T) then
   optC ([] ++ e.2.1)[Int.toNat T]? (none) fun d11 ↦
   optC ([] ++ e.2.1)[Int.toNat T]? (none) fun d12 ↦
   some ((e.1, ([] ++ e.2.1).set (Int.toNat T) d10.1, e.2.2.1, e.2.2.2.1, e.2.2.2.2.1, e.2.2.2.2.2), (false, [], [], [], 0, 0), [8], [], [])
 else none
 else none
 else some ((false, [], [], [], 0, 0), (false, [], [], [], 0, 0), [8], [], [])
 else bif !decide (d10.1.1 > d10.1.2) then
   bif decide (((List.length (α := I) []) + List.length e.2.1 + 1) * 16 ≤ lim) then
   bif decide (0 ≤ T) then
   optC ([] ++ e.2.1)[Int.toNat T]? (none) fun d11 ↦
   optC ([] ++ e.2.1)[Int.toNat T]? (none) fun d12 ↦
   some ((e.1, ([] ++ e.2.1).set (Int.toNat T) d10.1, e.2.2.1, e.2.2.2.1, e.2.2.2.2.1, e.2.2.2.2.2), (false, [], [], [], 0, 0), [], [], [])
 else none
 else none
 else some ((false, [], [], [], 0, 0), (false, [], [], [], 0, 0), [], [], [])
 else none
 else none := by kernel_rfl
theorem F_5 (u : U) (t n : Int) (e : E) (l : List En) (c : C) (T X Y G N op nx el : Int) : bF u t n e l c (5, T, X, Y, G, N, op, nx, el) =
  optC (G_flow_Read (u, t, e, l, false, G, ())) (none) fun d8 ↦
   bif decide (((List.length (α := I) []) + List.length e.2.1 + 1) * 16 ≤ lim) then
   bif decide (0 ≤ T) then
   optC ([] ++ e.2.1)[Int.toNat T]? (none) fun d9 ↦
   optC ([] ++ e.2.1)[Int.toNat T]? (none) fun d10 ↦
   some ((e.1, ([] ++ e.2.1).set (Int.toNat T) d8, e.2.2.1, e.2.2.2.1, e.2.2.2.2.1, e.2.2.2.2.2), (false, [], [], [], 0, 0), [], [], [(t, n, false, G, false, e.2.2.2.2.1)])
 else none
 else none := by kernel_rfl
theorem F_6 (u : U) (t n : Int) (e : E) (l : List En) (c : C) (T X Y G N op nx el : Int) : bF u t n e l c (6, T, X, Y, G, N, op, nx, el) =
  bif decide (0 ≤ X) then
   optC e.2.1[Int.toNat X]? (none) fun d8 ↦
   bif decide (((List.length (α := I) []) + List.length e.2.2.1 + 1) * 16 ≤ lim) then
   bif decide (0 ≤ G) then
   optC ([] ++ e.2.2.1)[Int.toNat G]? (none) fun d9 ↦
   optC ([] ++ e.2.2.1)[Int.toNat G]? (none) fun d10 ↦
   some ((e.1, e.2.1, ([] ++ e.2.2.1).set (Int.toNat G) d8, e.2.2.2.1, e.2.2.2.2.1, e.2.2.2.2.2), (false, [], [], [], 0, 0), [], [(t, false, G, e.2.2.2.2.1, d8.1, d8.2)], [(t, n, false, G, true, e.2.2.2.2.1)])
 else none
 else none
 else none := by kernel_rfl
theorem F_7 (u : U) (t n : Int) (e : E) (l : List En) (c : C) (T X Y G N op nx el : Int) : bF u t n e l c (7, T, X, Y, G, N, op, nx, el) =
  bif decide (0 ≤ G) then
   optC u.2.1[Int.toNat G]? (none) fun d8 ↦
   bif decide (0 ≤ X) then
   optC e.2.1[Int.toNat X]? (none) fun d9 ↦
   optC (G_itv_Leq (d9, (0, Go.IntKind.i64.wrap (d8 - 1)), ())) (none) fun d10 ↦
   bif !d10 then
   optC (G_itv_Meet (d9, (0, Go.IntKind.i64.wrap (d8 - 1)), ())) (none) fun d11 ↦
   bif decide (d11.1 > d11.2) then
   some ((false, [], [], [], 0, 0), (false, [], [], [], 0, 0), [9], [], [(t, n, true, G, 7 == 8, e.2.2.2.2.1)])
 else bif decide (((List.length (α := I) []) + List.length e.2.1 + 1) * 16 ≤ lim) then
   bif decide (0 ≤ X) then
   optC ([] ++ e.2.1)[Int.toNat X]? (none) fun d12 ↦
   optC ([] ++ e.2.1)[Int.toNat X]? (none) fun d13 ↦
   optC (G_flow_Read (u, t, (e.1, ([] ++ e.2.1).set (Int.toNat X) d11, e.2.2), l, true, G, ())) (none) fun d14 ↦
   bif decide (((List.length (α := I) []) + (([] ++ e.2.1).set (Int.toNat X) d11).length + 1) * 16 ≤ lim) then
   bif decide (0 ≤ T) then
   optC ([] ++ ([] ++ e.2.1).set (Int.toNat X) d11)[Int.toNat T]? (none) fun d15 ↦
   optC ([] ++ ([] ++ e.2.1).set (Int.toNat X) d11)[Int.toNat T]? (none) fun d16 ↦
   some ((e.1, ([] ++ ([] ++ e.2.1).set (Int.toNat X) d11).set (Int.toNat T) d14, e.2.2.1, e.2.2.2.1, e.2.2.2.2.1, e.2.2.2.2.2), (false, [], [], [], 0, 0), [9], [], [(t, n, true, G, 7 == 8, e.2.2.2.2.1)])
 else none
 else none
 else none
 else none
 else optC (G_itv_Meet (d9, (0, Go.IntKind.i64.wrap (d8 - 1)), ())) (none) fun d11 ↦
   bif decide (d11.1 > d11.2) then
   some ((false, [], [], [], 0, 0), (false, [], [], [], 0, 0), [], [], [(t, n, true, G, 7 == 8, e.2.2.2.2.1)])
 else bif decide (((List.length (α := I) []) + List.length e.2.1 + 1) * 16 ≤ lim) then
   bif decide (0 ≤ X) then
   optC ([] ++ e.2.1)[Int.toNat X]? (none) fun d12 ↦
   optC ([] ++ e.2.1)[Int.toNat X]? (none) fun d13 ↦
   optC (G_flow_Read (u, t, (e.1, ([] ++ e.2.1).set (Int.toNat X) d11, e.2.2), l, true, G, ())) (none) fun d14 ↦
   bif decide (((List.length (α := I) []) + (([] ++ e.2.1).set (Int.toNat X) d11).length + 1) * 16 ≤ lim) then
   bif decide (0 ≤ T) then
   optC ([] ++ ([] ++ e.2.1).set (Int.toNat X) d11)[Int.toNat T]? (none) fun d15 ↦
   optC ([] ++ ([] ++ e.2.1).set (Int.toNat X) d11)[Int.toNat T]? (none) fun d16 ↦
   some ((e.1, ([] ++ ([] ++ e.2.1).set (Int.toNat X) d11).set (Int.toNat T) d14, e.2.2.1, e.2.2.2.1, e.2.2.2.2.1, e.2.2.2.2.2), (false, [], [], [], 0, 0), [], [], [(t, n, true, G, 7 == 8, e.2.2.2.2.1)])
 else none
 else none
 else none
 else none
 else none
 else none := by kernel_rfl
theorem F_8 (u : U) (t n : Int) (e : E) (l : List En) (c : C) (T X Y G N op nx el : Int) : bF u t n e l c (8, T, X, Y, G, N, op, nx, el) =
  bif decide (0 ≤ G) then
   optC u.2.1[Int.toNat G]? (none) fun d8 ↦
   bif decide (0 ≤ X) then
   optC e.2.1[Int.toNat X]? (none) fun d9 ↦
   optC (G_itv_Leq (d9, (0, Go.IntKind.i64.wrap (d8 - 1)), ())) (none) fun d10 ↦
   bif !d10 then
   bif decide (0 ≤ Y) then
   optC e.2.1[Int.toNat Y]? (none) fun d11 ↦
   optC (G_itv_Meet (d9, (0, Go.IntKind.i64.wrap (d8 - 1)), ())) (none) fun d12 ↦
   bif decide (d12.1 > d12.2) then
   some ((false, [], [], [], 0, 0), (false, [], [], [], 0, 0), [9], [(t, true, G, e.2.2.2.2.1, d11.1, d11.2)], [(t, n, true, G, 8 == 8, e.2.2.2.2.1)])
 else bif decide (((List.length (α := I) []) + List.length e.2.1 + 1) * 16 ≤ lim) then
   bif decide (0 ≤ X) then
   optC ([] ++ e.2.1)[Int.toNat X]? (none) fun d13 ↦
   optC ([] ++ e.2.1)[Int.toNat X]? (none) fun d14 ↦
   bif decide (((List.length (α := I) []) + List.length e.2.2.2.1 + 1) * 16 ≤ lim) then
   bif decide (0 ≤ G) then
   optC ([] ++ e.2.2.2.1)[Int.toNat G]? (none) fun d15 ↦
   optC ([] ++ e.2.2.2.1)[Int.toNat G]? (none) fun d16 ↦
   bif decide (0 ≤ Y) then
   optC (([] ++ e.2.1).set (Int.toNat X) d12)[Int.toNat Y]? (none) fun d17 ↦
   optC (([] ++ e.2.1).set (Int.toNat X) d12)[Int.toNat Y]? (none) fun d18 ↦
   optC (G_itv_Join ([d16, d18], ())) (none) fun d19 ↦
   bif decide (0 ≤ G) then
   optC ([] ++ e.2.2.2.1)[Int.toNat G]? (none) fun d20 ↦
   optC ([] ++ e.2.2.2.1)[Int.toNat G]? (none) fun d21 ↦
   some ((e.1, ([] ++ e.2.1).set (Int.toNat X) d12, e.2.2.1, ([] ++ e.2.2.2.1).set (Int.toNat G) d19, e.2.2.2.2.1, e.2.2.2.2.2), (false, [], [], [], 0, 0), [9], [(t, true, G, e.2.2.2.2.1, d11.1, d11.2)], [(t, n, true, G, 8 == 8, e.2.2.2.2.1)])
 else none
 else none
 else none
 else none
 else none
 else none
 else none
 else bif decide (0 ≤ Y) then
   optC e.2.1[Int.toNat Y]? (none) fun d11 ↦
   optC (G_itv_Meet (d9, (0, Go.IntKind.i64.wrap (d8 - 1)), ())) (none) fun d12 ↦
   bif decide (d12.1 > d12.2) then
   some ((false, [], [], [], 0, 0), (false, [], [], [], 0, 0), [], [(t, true, G, e.2.2.2.2.1, d11.1, d11.2)], [(t, n, true, G, 8 == 8, e.2.2.2.2.1)])
 else bif decide (((List.length (α := I) []) + List.length e.2.1 + 1) * 16 ≤ lim) then
   bif decide (0 ≤ X) then
   optC ([] ++ e.2.1)[Int.toNat X]? (none) fun d13 ↦
   optC ([] ++ e.2.1)[Int.toNat X]? (none) fun d14 ↦
   bif decide (((List.length (α := I) []) + List.length e.2.2.2.1 + 1) * 16 ≤ lim) then
   bif decide (0 ≤ G) then
   optC ([] ++ e.2.2.2.1)[Int.toNat G]? (none) fun d15 ↦
   optC ([] ++ e.2.2.2.1)[Int.toNat G]? (none) fun d16 ↦
   bif decide (0 ≤ Y) then
   optC (([] ++ e.2.1).set (Int.toNat X) d12)[Int.toNat Y]? (none) fun d17 ↦
   optC (([] ++ e.2.1).set (Int.toNat X) d12)[Int.toNat Y]? (none) fun d18 ↦
   optC (G_itv_Join ([d16, d18], ())) (none) fun d19 ↦
   bif decide (0 ≤ G) then
   optC ([] ++ e.2.2.2.1)[Int.toNat G]? (none) fun d20 ↦
   optC ([] ++ e.2.2.2.1)[Int.toNat G]? (none) fun d21 ↦
   some ((e.1, ([] ++ e.2.1).set (Int.toNat X) d12, e.2.2.1, ([] ++ e.2.2.2.1).set (Int.toNat G) d19, e.2.2.2.2.1, e.2.2.2.2.2), (false, [], [], [], 0, 0), [], [(t, true, G, e.2.2.2.2.1, d11.1, d11.2)], [(t, n, true, G, 8 == 8, e.2.2.2.2.1)])
 else none
 else none
 else none
 else none
 else none
 else none
 else none
 else none
 else none := by kernel_rfl
theorem F_9 (u : U) (t n : Int) (e : E) (l : List En) (c : C) (T X Y G N op nx el : Int) : bF u t n e l c (9, T, X, Y, G, N, op, nx, el) =
  optC (G_held_Has (e.2.2.2.2.2, G, ())) (none) fun d8 ↦
   bif d8 then
   optC (G_held_Has (e.2.2.2.2.1, G, ())) (none) fun d9 ↦
   bif d9 then
   some ((false, [], [], [], 0, 0), (false, [], [], [], 0, 0), [11], [], [])
 else optC (G_flow_deed_gains ((9, T, X, Y, G, N, op, nx, el, u.1, u.2.1, u.2.2.1, u.2.2.2, t, n, e.1, e.2.1, e.2.2.1, e.2.2.2.1, e.2.2.2.2.1, e.2.2.2.2.2, l, false, [], [], [], 0, 0, false, [], [], [], 0, 0, [11], [], [], ()), e.2.2.1, false, ())) (none) fun d10 ↦
   optC (G_flow_deed_gains ((9, T, X, Y, G, N, op, nx, el, u.1, u.2.1, u.2.2.1, u.2.2.2, t, n, e.1, e.2.1, e.2.2.1, e.2.2.2.1, e.2.2.2.2.1, e.2.2.2.2.2, l, false, [], [], [], 0, 0, false, [], [], [], 0, 0, [11], [], [], ()), e.2.2.2.1, true, ())) (none) fun d11 ↦
   optC (G_held_With (e.2.2.2.2.1, [G], ())) (none) fun d12 ↦
   optC (G_held_With (e.2.2.2.2.2, [G], ())) (none) fun d13 ↦
   some ((e.1, e.2.1, d10, d11, d12, d13), (false, [], [], [], 0, 0), [11], [], [])
 else optC (G_held_Has (e.2.2.2.2.1, G, ())) (none) fun d9 ↦
   bif d9 then
   some ((false, [], [], [], 0, 0), (false, [], [], [], 0, 0), [], [], [])
 else optC (G_flow_deed_gains ((9, T, X, Y, G, N, op, nx, el, u.1, u.2.1, u.2.2.1, u.2.2.2, t, n, e.1, e.2.1, e.2.2.1, e.2.2.2.1, e.2.2.2.2.1, e.2.2.2.2.2, l, false, [], [], [], 0, 0, false, [], [], [], 0, 0, [], [], [], ()), e.2.2.1, false, ())) (none) fun d10 ↦
   optC (G_flow_deed_gains ((9, T, X, Y, G, N, op, nx, el, u.1, u.2.1, u.2.2.1, u.2.2.2, t, n, e.1, e.2.1, e.2.2.1, e.2.2.2.1, e.2.2.2.2.1, e.2.2.2.2.2, l, false, [], [], [], 0, 0, false, [], [], [], 0, 0, [], [], [], ()), e.2.2.2.1, true, ())) (none) fun d11 ↦
   optC (G_held_With (e.2.2.2.2.1, [G], ())) (none) fun d12 ↦
   optC (G_held_With (e.2.2.2.2.2, [G], ())) (none) fun d13 ↦
   some ((e.1, e.2.1, d10, d11, d12, d13), (false, [], [], [], 0, 0), [], [], []) := by kernel_rfl
theorem F_10 (u : U) (t n : Int) (e : E) (l : List En) (c : C) (T X Y G N op nx el : Int) : bF u t n e l c (10, T, X, Y, G, N, op, nx, el) =
  optC (G_held_Has (e.2.2.2.2.1, G, ())) (none) fun d8 ↦
   bif !d8 then
   optC (G_held_Has (e.2.2.2.2.2, G, ())) (none) fun d9 ↦
   bif !d9 then
   some ((false, [], [], [], 0, 0), (false, [], [], [], 0, 0), [12], [], [])
 else optC (G_held_Without (e.2.2.2.2.1, [G], ())) (none) fun d10 ↦
   optC (G_held_Without (e.2.2.2.2.2, [G], ())) (none) fun d11 ↦
   some ((e.1, e.2.1, e.2.2.1, e.2.2.2.1, d10, d11), (false, [], [], [], 0, 0), [12], [], [])
 else optC (G_held_Has (e.2.2.2.2.2, G, ())) (none) fun d9 ↦
   bif !d9 then
   some ((false, [], [], [], 0, 0), (false, [], [], [], 0, 0), [], [], [])
 else optC (G_held_Without (e.2.2.2.2.1, [G], ())) (none) fun d10 ↦
   optC (G_held_Without (e.2.2.2.2.2, [G], ())) (none) fun d11 ↦
   some ((e.1, e.2.1, e.2.2.1, e.2.2.2.1, d10, d11), (false, [], [], [], 0, 0), [], [], []) := by kernel_rfl
theorem F_11 (u : U) (t n : Int) (e : E) (l : List En) (c : C) (T X Y G N op nx el : Int) : bF u t n e l c (11, T, X, Y, G, N, op, nx, el) =
  bif decide (0 ≤ X) then
   optC e.2.1[Int.toNat X]? (none) fun d8 ↦
   bif decide (0 ≤ Y) then
   optC e.2.1[Int.toNat Y]? (none) fun d9 ↦
   optC (G_itv_Refine (op, d8, d9, ())) (none) fun d10 ↦
   bif X == Y then
   optC (G_itv_Meet (d10.1, d10.2.1, ())) (none) fun d11 ↦
   bif decide (d11.1 > d11.2) then
   optC (G_num_Not (op, ())) (none) fun d12 ↦
   bif decide (0 ≤ X) then
   optC e.2.1[Int.toNat X]? (none) fun d13 ↦
   bif decide (0 ≤ Y) then
   optC e.2.1[Int.toNat Y]? (none) fun d14 ↦
   optC (G_itv_Refine (d12, d13, d14, ())) (none) fun d15 ↦
   bif X == Y then
   optC (G_itv_Meet (d15.1, d15.2.1, ())) (none) fun d16 ↦
   bif decide (d16.1 > d16.2) then
   some ((false, [], [], [], 0, 0), (false, [], [], [], 0, 0), [], [], [])
 else bif decide (d16.1 > d16.2) then
   some ((false, [], [], [], 0, 0), (false, [], [], [], 0, 0), [], [], [])
 else bif decide (((List.length (α := I) []) + List.length e.2.1 + 1) * 16 ≤ lim) then
   bif decide (0 ≤ X) then
   optC ([] ++ e.2.1)[Int.toNat X]? (none) fun d17 ↦
   optC ([] ++ e.2.1)[Int.toNat X]? (none) fun d18 ↦
   bif decide (0 ≤ Y) then
   optC (([] ++ e.2.1).set (Int.toNat X) d16)[Int.toNat Y]? (none) fun d19 ↦
   optC (([] ++ e.2.1).set (Int.toNat X) d16)[Int.toNat Y]? (none) fun d20 ↦
   some ((false, [], [], [], 0, 0), (e.1, (([] ++ e.2.1).set (Int.toNat X) d16).set (Int.toNat Y) d16, e.2.2.1, e.2.2.2.1, e.2.2.2.2.1, e.2.2.2.2.2), [], [], [])
 else none
 else none
 else none
 else bif decide (d15.1.1 > d15.1.2) then
   some ((false, [], [], [], 0, 0), (false, [], [], [], 0, 0), [], [], [])
 else bif decide (d15.2.1.1 > d15.2.1.2) then
   some ((false, [], [], [], 0, 0), (false, [], [], [], 0, 0), [], [], [])
 else bif decide (((List.length (α := I) []) + List.length e.2.1 + 1) * 16 ≤ lim) then
   bif decide (0 ≤ X) then
   optC ([] ++ e.2.1)[Int.toNat X]? (none) fun d16 ↦
   optC ([] ++ e.2.1)[Int.toNat X]? (none) fun d17 ↦
   bif decide (0 ≤ Y) then
   optC (([] ++ e.2.1).set (Int.toNat X) d15.1)[Int.toNat Y]? (none) fun d18 ↦
   optC (([] ++ e.2.1).set (Int.toNat X) d15.1)[Int.toNat Y]? (none) fun d19 ↦
   some ((false, [], [], [], 0, 0), (e.1, (([] ++ e.2.1).set (Int.toNat X) d15.1).set (Int.toNat Y) d15.2.1, e.2.2.1, e.2.2.2.1, e.2.2.2.2.1, e.2.2.2.2.2), [], [], [])
 else none
 else none
 else none
 else none
 else none
 else bif decide (d11.1 > d11.2) then
   optC (G_num_Not (op, ())) (none) fun d12 ↦
   bif decide (0 ≤ X) then
   optC e.2.1[Int.toNat X]? (none) fun d13 ↦
   bif decide (0 ≤ Y) then
   optC e.2.1[Int.toNat Y]? (none) fun d14 ↦
   optC (G_itv_Refine (d12, d13, d14, ())) (none) fun d15 ↦
   bif X == Y then
   optC (G_itv_Meet (d15.1, d15.2.1, ())) (none) fun d16 ↦
   bif decide (d16.1 > d16.2) then
   some ((false, [], [], [], 0, 0), (false, [], [], [], 0, 0), [], [], [])
 else bif decide (d16.1 > d16.2) then
   some ((false, [], [], [], 0, 0), (false, [], [], [], 0, 0), [], [], [])
 else bif decide (((List.length (α := I) []) + List.length e.2.1 + 1) * 16 ≤ lim) then
   bif decide (0 ≤ X) then
   optC ([] ++ e.2.1)[Int.toNat X]? (none) fun d17 ↦
   optC ([] ++ e.2.1)[Int.toNat X]? (none) fun d18 ↦
   bif decide (0 ≤ Y) then
   optC (([] ++ e.2.1).set (Int.toNat X) d16)[Int.toNat Y]? (none) fun d19 ↦
   optC (([] ++ e.2.1).set (Int.toNat X) d16)[Int.toNat Y]? (none) fun d20 ↦
   some ((false, [], [], [], 0, 0), (e.1, (([] ++ e.2.1).set (Int.toNat X) d16).set (Int.toNat Y) d16, e.2.2.1, e.2.2.2.1, e.2.2.2.2.1, e.2.2.2.2.2), [], [], [])
 else none
 else none
 else none
 else bif decide (d15.1.1 > d15.1.2) then
   some ((false, [], [], [], 0, 0), (false, [], [], [], 0, 0), [], [], [])
 else bif decide (d15.2.1.1 > d15.2.1.2) then
   some ((false, [], [], [], 0, 0), (false, [], [], [], 0, 0), [], [], [])
 else bif decide (((List.length (α := I) []) + List.length e.2.1 + 1) * 16 ≤ lim) then
   bif decide (0 ≤ X) then
   optC ([] ++ e.2.1)[Int.toNat X]? (none) fun d16 ↦
   optC ([] ++ e.2.1)[Int.toNat X]? (none) fun d17 ↦
   bif decide (0 ≤ Y) then
   optC (([] ++ e.2.1).set (Int.toNat X) d15.1)[Int.toNat Y]? (none) fun d18 ↦
   optC (([] ++ e.2.1).set (Int.toNat X) d15.1)[Int.toNat Y]? (none) fun d19 ↦
   some ((false, [], [], [], 0, 0), (e.1, (([] ++ e.2.1).set (Int.toNat X) d15.1).set (Int.toNat Y) d15.2.1, e.2.2.1, e.2.2.2.1, e.2.2.2.2.1, e.2.2.2.2.2), [], [], [])
 else none
 else none
 else none
 else none
 else none
 else bif decide (((List.length (α := I) []) + List.length e.2.1 + 1) * 16 ≤ lim) then
   bif decide (0 ≤ X) then
   optC ([] ++ e.2.1)[Int.toNat X]? (none) fun d12 ↦
   optC ([] ++ e.2.1)[Int.toNat X]? (none) fun d13 ↦
   bif decide (0 ≤ Y) then
   optC (([] ++ e.2.1).set (Int.toNat X) d11)[Int.toNat Y]? (none) fun d14 ↦
   optC (([] ++ e.2.1).set (Int.toNat X) d11)[Int.toNat Y]? (none) fun d15 ↦
   optC (G_num_Not (op, ())) (none) fun d16 ↦
   bif decide (0 ≤ X) then
   optC e.2.1[Int.toNat X]? (none) fun d17 ↦
   bif decide (0 ≤ Y) then
   optC e.2.1[Int.toNat Y]? (none) fun d18 ↦
   optC (G_itv_Refine (d16, d17, d18, ())) (none) fun d19 ↦
   bif X == Y then
   optC (G_itv_Meet (d19.1, d19.2.1, ())) (none) fun d20 ↦
   bif decide (d20.1 > d20.2) then
   some ((e.1, (([] ++ e.2.1).set (Int.toNat X) d11).set (Int.toNat Y) d11, e.2.2.1, e.2.2.2.1, e.2.2.2.2.1, e.2.2.2.2.2), (false, [], [], [], 0, 0), [], [], [])
 else bif decide (d20.1 > d20.2) then
   some ((e.1, (([] ++ e.2.1).set (Int.toNat X) d11).set (Int.toNat Y) d11, e.2.2.1, e.2.2.2.1, e.2.2.2.2.1, e.2.2.2.2.2), (false, [], [], [], 0, 0), [], [], [])
 else bif decide (((List.length (α := I) []) + List.length e.2.1 + 1) * 16 ≤ lim) then
   bif decide (0 ≤ X) then
   optC ([] ++ e.2.1)[Int.toNat X]? (none) fun d21 ↦
   optC ([] ++ e.2.1)[Int.toNat X]? (none) fun d22 ↦
   bif decide (0 ≤ Y) then
   optC (([] ++ e.2.1).set (Int.toNat X) d20)[Int.toNat Y]? (none) fun d23 ↦
   optC (([] ++ e.2.1).set (Int.toNat X) d20)[Int.toNat Y]? (none) fun d24 ↦
   some ((e.1, (([] ++ e.2.1).set (Int.toNat X) d11).set (Int.toNat Y) d11, e.2.2.1, e.2.2.2.1, e.2.2.2.2.1, e.2.2.2.2.2), (e.1, (([] ++ e.2.1).set (Int.toNat X) d20).set (Int.toNat Y) d20, e.2.2.1, e.2.2.2.1, e.2.2.2.2.1, e.2.2.2.2.2), [], [], [])
 else none
 else none
 else none
 else bif decide (d19.1.1 > d19.1.2) then
   some ((e.1, (([] ++ e.2.1).set (Int.toNat X) d11).set (Int.toNat Y) d11, e.2.2.1, e.2.2.2.1, e.2.2.2.2.1, e.2.2.2.2.2), (false, [], [], [], 0, 0), [], [], [])
 else bif decide (d19.2.1.1 > d19.2.1.2) then
   some ((e.1, (([] ++ e.2.1).set (Int.toNat X) d11).set (Int.toNat Y) d11, e.2.2.1, e.2.2.2.1, e.2.2.2.2.1, e.2.2.2.2.2), (false, [], [], [], 0, 0), [], [], [])
 else bif decide (((List.length (α := I) []) + List.length e.2.1 + 1) * 16 ≤ lim) then
   bif decide (0 ≤ X) then
   optC ([] ++ e.2.1)[Int.toNat X]? (none) fun d20 ↦
   optC ([] ++ e.2.1)[Int.toNat X]? (none) fun d21 ↦
   bif decide (0 ≤ Y) then
   optC (([] ++ e.2.1).set (Int.toNat X) d19.1)[Int.toNat Y]? (none) fun d22 ↦
   optC (([] ++ e.2.1).set (Int.toNat X) d19.1)[Int.toNat Y]? (none) fun d23 ↦
   some ((e.1, (([] ++ e.2.1).set (Int.toNat X) d11).set (Int.toNat Y) d11, e.2.2.1, e.2.2.2.1, e.2.2.2.2.1, e.2.2.2.2.2), (e.1, (([] ++ e.2.1).set (Int.toNat X) d19.1).set (Int.toNat Y) d19.2.1, e.2.2.1, e.2.2.2.1, e.2.2.2.2.1, e.2.2.2.2.2), [], [], [])
 else none
 else none
 else none
 else none
 else none
 else none
 else none
 else none
 else bif decide (d10.1.1 > d10.1.2) then
   optC (G_num_Not (op, ())) (none) fun d11 ↦
   bif decide (0 ≤ X) then
   optC e.2.1[Int.toNat X]? (none) fun d12 ↦
   bif decide (0 ≤ Y) then
   optC e.2.1[Int.toNat Y]? (none) fun d13 ↦
   optC (G_itv_Refine (d11, d12, d13, ())) (none) fun d14 ↦
   bif X == Y then
   optC (G_itv_Meet (d14.1, d14.2.1, ())) (none) fun d15 ↦
   bif decide (d15.1 > d15.2) then
   some ((false, [], [], [], 0, 0), (false, [], [], [], 0, 0), [], [], [])
 else bif decide (d15.1 > d15.2) then
   some ((false, [], [], [], 0, 0), (false, [], [], [], 0, 0), [], [], [])
 else bif decide (((List.length (α := I) []) + List.length e.2.1 + 1) * 16 ≤ lim) then
   bif decide (0 ≤ X) then
   optC ([] ++ e.2.1)[Int.toNat X]? (none) fun d16 ↦
   optC ([] ++ e.2.1)[Int.toNat X]? (none) fun d17 ↦
   bif decide (0 ≤ Y) then
   optC (([] ++ e.2.1).set (Int.toNat X) d15)[Int.toNat Y]? (none) fun d18 ↦
   optC (([] ++ e.2.1).set (Int.toNat X) d15)[Int.toNat Y]? (none) fun d19 ↦
   some ((false, [], [], [], 0, 0), (e.1, (([] ++ e.2.1).set (Int.toNat X) d15).set (Int.toNat Y) d15, e.2.2.1, e.2.2.2.1, e.2.2.2.2.1, e.2.2.2.2.2), [], [], [])
 else none
 else none
 else none
 else bif decide (d14.1.1 > d14.1.2) then
   some ((false, [], [], [], 0, 0), (false, [], [], [], 0, 0), [], [], [])
 else bif decide (d14.2.1.1 > d14.2.1.2) then
   some ((false, [], [], [], 0, 0), (false, [], [], [], 0, 0), [], [], [])
 else bif decide (((List.length (α := I) []) + List.length e.2.1 + 1) * 16 ≤ lim) then
   bif decide (0 ≤ X) then
   optC ([] ++ e.2.1)[Int.toNat X]? (none) fun d15 ↦
   optC ([] ++ e.2.1)[Int.toNat X]? (none) fun d16 ↦
   bif decide (0 ≤ Y) then
   optC (([] ++ e.2.1).set (Int.toNat X) d14.1)[Int.toNat Y]? (none) fun d17 ↦
   optC (([] ++ e.2.1).set (Int.toNat X) d14.1)[Int.toNat Y]? (none) fun d18 ↦
   some ((false, [], [], [], 0, 0), (e.1, (([] ++ e.2.1).set (Int.toNat X) d14.1).set (Int.toNat Y) d14.2.1, e.2.2.1, e.2.2.2.1, e.2.2.2.2.1, e.2.2.2.2.2), [], [], [])
 else none
 else none
 else none
 else none
 else none
 else bif decide (d10.2.1.1 > d10.2.1.2) then
   optC (G_num_Not (op, ())) (none) fun d11 ↦
   bif decide (0 ≤ X) then
   optC e.2.1[Int.toNat X]? (none) fun d12 ↦
   bif decide (0 ≤ Y) then
   optC e.2.1[Int.toNat Y]? (none) fun d13 ↦
   optC (G_itv_Refine (d11, d12, d13, ())) (none) fun d14 ↦
   bif X == Y then
   optC (G_itv_Meet (d14.1, d14.2.1, ())) (none) fun d15 ↦
   bif decide (d15.1 > d15.2) then
   some ((false, [], [], [], 0, 0), (false, [], [], [], 0, 0), [], [], [])
 else bif decide (d15.1 > d15.2) then
   some ((false, [], [], [], 0, 0), (false, [], [], [], 0, 0), [], [], [])
 else bif decide (((List.length (α := I) []) + List.length e.2.1 + 1) * 16 ≤ lim) then
   bif decide (0 ≤ X) then
   optC ([] ++ e.2.1)[Int.toNat X]? (none) fun d16 ↦
   optC ([] ++ e.2.1)[Int.toNat X]? (none) fun d17 ↦
   bif decide (0 ≤ Y) then
   optC (([] ++ e.2.1).set (Int.toNat X) d15)[Int.toNat Y]? (none) fun d18 ↦
   optC (([] ++ e.2.1).set (Int.toNat X) d15)[Int.toNat Y]? (none) fun d19 ↦
   some ((false, [], [], [], 0, 0), (e.1, (([] ++ e.2.1).set (Int.toNat X) d15).set (Int.toNat Y) d15, e.2.2.1, e.2.2.2.1, e.2.2.2.2.1, e.2.2.2.2.2), [], [], [])
 else none
 else none
 else none
 else bif decide (d14.1.1 > d14.1.2) then
   some ((false, [], [], [], 0, 0), (false, [], [], [], 0, 0), [], [], [])
 else bif decide (d14.2.1.1 > d14.2.1.2) then
   some ((false, [], [], [], 0, 0), (false, [], [], [], 0, 0), [], [], [])
 else bif decide (((List.length (α := I) []) + List.length e.2.1 + 1) * 16 ≤ lim) then
   bif decide (0 ≤ X) then
   optC ([] ++ e.2.1)[Int.toNat X]? (none) fun d15 ↦
   optC ([] ++ e.2.1)[Int.toNat X]? (none) fun d16 ↦
   bif decide (0 ≤ Y) then
   optC (([] ++ e.2.1).set (Int.toNat X) d14.1)[Int.toNat Y]? (none) fun d17 ↦
   optC (([] ++ e.2.1).set (Int.toNat X) d14.1)[Int.toNat Y]? (none) fun d18 ↦
   some ((false, [], [], [], 0, 0), (e.1, (([] ++ e.2.1).set (Int.toNat X) d14.1).set (Int.toNat Y) d14.2.1, e.2.2.1, e.2.2.2.1, e.2.2.2.2.1, e.2.2.2.2.2), [], [], [])
 else none
 else none
 else none
 else none
 else none
 else bif decide (((List.length (α := I) []) + List.length e.2.1 + 1) * 16 ≤ lim) then
   bif decide (0 ≤ X) then
   optC ([] ++ e.2.1)[Int.toNat X]? (none) fun d11 ↦
   optC ([] ++ e.2.1)[Int.toNat X]? (none) fun d12 ↦
   bif decide (0 ≤ Y) then
   optC (([] ++ e.2.1).set (Int.toNat X) d10.1)[Int.toNat Y]? (none) fun d13 ↦
   optC (([] ++ e.2.1).set (Int.toNat X) d10.1)[Int.toNat Y]? (none) fun d14 ↦
   optC (G_num_Not (op, ())) (none) fun d15 ↦
   bif decide (0 ≤ X) then
   optC e.2.1[Int.toNat X]? (none) fun d16 ↦
   bif decide (0 ≤ Y) then
   optC e.2.1[Int.toNat Y]? (none) fun d17 ↦
   optC (G_itv_Refine (d15, d16, d17, ())) (none) fun d18 ↦
   bif X == Y then
   optC (G_itv_Meet (d18.1, d18.2.1, ())) (none) fun d19 ↦
   bif decide (d19.1 > d19.2) then
   some ((e.1, (([] ++ e.2.1).set (Int.toNat X) d10.1).set (Int.toNat Y) d10.2.1, e.2.2.1, e.2.2.2.1, e.2.2.2.2.1, e.2.2.2.2.2), (false, [], [], [], 0, 0), [], [], [])
 else bif decide (d19.1 > d19.2) then
   some ((e.1, (([] ++ e.2.1).set (Int.toNat X) d10.1).set (Int.toNat Y) d10.2.1, e.2.2.1, e.2.2.2.1, e.2.2.2.2.1, e.2.2.2.2.2), (false, [], [], [], 0, 0), [], [], [])
 else bif decide (((List.length (α := I) []) + List.length e.2.1 + 1) * 16 ≤ lim) then
   bif decide (0 ≤ X) then
   optC ([] ++ e.2.1)[Int.toNat X]? (none) fun d20 ↦
   optC ([] ++ e.2.1)[Int.toNat X]? (none) fun d21 ↦
   bif decide (0 ≤ Y) then
   optC (([] ++ e.2.1).set (Int.toNat X) d19)[Int.toNat Y]? (none) fun d22 ↦
   optC (([] ++ e.2.1).set (Int.toNat X) d19)[Int.toNat Y]? (none) fun d23 ↦
   some ((e.1, (([] ++ e.2.1).set (Int.toNat X) d10.1).set (Int.toNat Y) d10.2.1, e.2.2.1, e.2.2.2.1, e.2.2.2.2.1, e.2.2.2.2.2), (e.1, (([] ++ e.2.1).set (Int.toNat X) d19).set (Int.toNat Y) d19, e.2.2.1, e.2.2.2.1, e.2.2.2.2.1, e.2.2.2.2.2), [], [], [])
 else none
 else none
 else none
 else bif decide (d18.1.1 > d18.1.2) then
   some ((e.1, (([] ++ e.2.1).set (Int.toNat X) d10.1).set (Int.toNat Y) d10.2.1, e.2.2.1, e.2.2.2.1, e.2.2.2.2.1, e.2.2.2.2.2), (false, [], [], [], 0, 0), [], [], [])
 else bif decide (d18.2.1.1 > d18.2.1.2) then
   some ((e.1, (([] ++ e.2.1).set (Int.toNat X) d10.1).set (Int.toNat Y) d10.2.1, e.2.2.1, e.2.2.2.1, e.2.2.2.2.1, e.2.2.2.2.2), (false, [], [], [], 0, 0), [], [], [])
 else bif decide (((List.length (α := I) []) + List.length e.2.1 + 1) * 16 ≤ lim) then
   bif decide (0 ≤ X) then
   optC ([] ++ e.2.1)[Int.toNat X]? (none) fun d19 ↦
   optC ([] ++ e.2.1)[Int.toNat X]? (none) fun d20 ↦
   bif decide (0 ≤ Y) then
   optC (([] ++ e.2.1).set (Int.toNat X) d18.1)[Int.toNat Y]? (none) fun d21 ↦
   optC (([] ++ e.2.1).set (Int.toNat X) d18.1)[Int.toNat Y]? (none) fun d22 ↦
   some ((e.1, (([] ++ e.2.1).set (Int.toNat X) d10.1).set (Int.toNat Y) d10.2.1, e.2.2.1, e.2.2.2.1, e.2.2.2.2.1, e.2.2.2.2.2), (e.1, (([] ++ e.2.1).set (Int.toNat X) d18.1).set (Int.toNat Y) d18.2.1, e.2.2.1, e.2.2.2.1, e.2.2.2.2.1, e.2.2.2.2.2), [], [], [])
 else none
 else none
 else none
 else none
 else none
 else none
 else none
 else none
 else none
 else none := by kernel_rfl
theorem F_12 (u : U) (t n : Int) (e : E) (l : List En) (c : C) (T X Y G N op nx el : Int) : bF u t n e l c (12, T, X, Y, G, N, op, nx, el) =
  some ((e.1, e.2.1, e.2.2.1, e.2.2.2.1, e.2.2.2.2.1, e.2.2.2.2.2), (false, [], [], [], 0, 0), [], [], []) := by kernel_rfl
theorem F_13 (u : U) (t n : Int) (e : E) (l : List En) (c : C) (T X Y G N op nx el : Int) : bF u t n e l c (13, T, X, Y, G, N, op, nx, el) =
  some ((false, [], [], [], 0, 0), (false, [], [], [], 0, 0), [10], [], []) := by kernel_rfl
theorem F_14 (u : U) (t n : Int) (e : E) (l : List En) (c : C) (T X Y G N op nx el : Int) : bF u t n e l c (14, T, X, Y, G, N, op, nx, el) =
  some ((false, [], [], [], 0, 0), (false, [], [], [], 0, 0), [], [], []) := by kernel_rfl
end Go.Proofs.Ytbdcblpjemmipaa.Ex

namespace Go.Proofs.Ytbdcblpjemmipaa.Ex
set_option maxRecDepth 100000
set_option linter.unusedVariables false
set_option linter.unusedSimpArgs false
theorem both_chain (x y c d : I) : (bif empB x then some ((1, 0), (1, 0), ()) else bif empB y then some ((1, 0), (1, 0), ()) else bif empB c then some ((1, 0), (1, 0), ()) else bif empB d then some ((1, 0), (1, 0), ()) else some (c, d, ()) : Option (I × I × Unit)) =
    some ((both x y c d).1, (both x y c d).2, ()) := by
  unfold both
  cases empB x <;> cases empB y <;> cases empB c <;> cases empB d <;> rfl
theorem n_itv_without (x y : I) (hx : isB x = true) : g_itv_without x y = some (wout x y) := by
  obtain ⟨x1, x2⟩ := isB_abs hx
  have w1 : IntKind.i64.wrap (x.1 + 1) = x.1 + 1 := wr (by omega)
  have w2 : IntKind.i64.wrap (x.2 - 1) = x.2 - 1 := wr (by omega)
  unfold g_itv_without wout
  simp only [w1, w2]
  by_cases h1 : y.1 = y.2
  · rw [show (y.1 != y.2) = false by simp [bne, h1], if_pos h1]
    by_cases h2 : x.1 = y.1
    · rw [show (x.1 == y.1) = true by simp [h2], if_pos h2]; rfl
    · rw [show (x.1 == y.1) = false by simp [h2], if_neg h2]
      by_cases h3 : x.2 = y.1
      · rw [show (x.2 == y.1) = true by simp [h3], if_pos h3]; rfl
      · rw [show (x.2 == y.1) = false by simp [h3], if_neg h3]; rfl
  · rw [show (y.1 != y.2) = true by simp [bne, h1], if_neg h1]; rfl
theorem n_itv_Refine (r : Int) (x y : I) (hx : isB x = true) (hy : isB y = true) : g_itv_Refine r x y = some ((refI r x y).1, (refI r x y).2, ()) := by
  obtain ⟨x1, x2⟩ := isB_abs hx
  obtain ⟨y1, y2⟩ := isB_abs hy
  have w1 : IntKind.i64.wrap (x.1 + 1) = x.1 + 1 := wr (by omega)
  have w2 : IntKind.i64.wrap (x.2 - 1) = x.2 - 1 := wr (by omega)
  have w3 : IntKind.i64.wrap (y.1 + 1) = y.1 + 1 := wr (by omega)
  have w4 : IntKind.i64.wrap (y.2 - 1) = y.2 - 1 := wr (by omega)
  unfold g_itv_Refine refI
  simp only [w1, w2, w3, w4, mn_def, mx_def, G_itv_Meet, n_itv_Meet, G_itv_without, n_itv_without x y hx, n_itv_without y x hy, optC_some]
  by_cases o1 : r = 1
  · subst o1; exact both_chain x y (x.1, mn x.2 (y.2 - 1)) (mx y.1 (x.1 + 1), y.2)
  by_cases o2 : r = 2
  · subst o2; exact both_chain x y (x.1, mn x.2 y.2) (mx y.1 x.1, y.2)
  by_cases o5 : r = 5
  · subst o5; exact both_chain x y (mx x.1 y.1, x.2) (y.1, mn y.2 x.2)
  by_cases o6 : r = 6
  · subst o6; exact both_chain x y (mx x.1 (y.1 + 1), x.2) (y.1, mn y.2 (x.2 - 1))
  by_cases o3 : r = 3
  · subst o3; exact both_chain x y (iMeet x y) (iMeet x y)
  by_cases o4 : r = 4
  · subst o4; exact both_chain x y (wout x y) (wout y x)
  simp only [o1, o2, o3, o4, o5, o6, if_false, beq_eq_false_iff_ne.2 o1, beq_eq_false_iff_ne.2 o2, beq_eq_false_iff_ne.2 o3, beq_eq_false_iff_ne.2 o4, beq_eq_false_iff_ne.2 o5, beq_eq_false_iff_ne.2 o6, cond_false]
  rfl
end Go.Proofs.Ytbdcblpjemmipaa.Ex

namespace Go.Proofs.Ytbdcblpjemmipaa.Ex
open Go.Proofs
set_option maxRecDepth 100000
set_option maxHeartbeats 2000000
set_option linter.unusedVariables false
set_option linter.unusedSimpArgs false
theorem look {α β : Type} {l : List α} {i : Nat} (h : i < l.length) (b : β) (n : β) : optC l[i]? n (fun _ => b) = b := by rw [List.getElem?_eq_getElem h]; rfl
theorem limc {n : Nat} (h : n ≤ 1000) : decide ((n + 1) * 16 ≤ lim) = true := decide_eq_true (by unfold lim; omega)
theorem inB_iff {k n : Int} : inB k n = true ↔ 0 ≤ k ∧ k < n := by simp [inB]
theorem look_ex {α : Type} (l : List α) (i : Int) (h : 0 ≤ i ∧ i < (l.length : Int)) : ∃ d, l[i.toNat]? = some d := ⟨l[i.toNat]'(by omega), List.getElem?_eq_getElem _⟩
theorem itv_of (n : Int) (h : fitB n = true) : G_itv_Of ([n], ()) = some (n, n) := n_itv_Of1 n h
theorem both_ne (x y c d : I) : both x y c d = (nn, nn) ∨ (empB (both x y c d).1 = false ∧ empB (both x y c d).2 = false) := by
  unfold both
  cases empB x
  · cases empB y
    · cases h1 : empB c
      · cases h2 : empB d
        · exact .inr ⟨h1, h2⟩
        · exact .inl rfl
      · exact .inl rfl
    · exact .inl rfl
  · exact .inl rfl
theorem ref_ne (r : Int) (x y : I) : refI r x y = (nn, nn) ∨ (empB (refI r x y).1 = false ∧ empB (refI r x y).2 = false) := by
  unfold refI
  repeat' split
  all_goals first | exact both_ne .. | exact .inl rfl
theorem ref_meet (r : Int) (x y : I) : iMeet (refI r x y).1 (refI r x y).2 = mSpan (refI r x y).1 (refI r x y).2 := by
  rcases ref_ne r x y with h | h
  · rw [h]; decide
  · exact meet_span h.1 h.2
theorem not_ex (op : Int) : ∃ w, g_num_Not op = some w := by
  unfold g_num_Not
  cases op == 1 <;> cases op == 2 <;> cases op == 3 <;> cases op == 4 <;> cases op == 5 <;> cases op == 6 <;> exact ⟨_, rfl⟩
end Go.Proofs.Ytbdcblpjemmipaa.Ex

namespace Go.Proofs.Ytbdcblpjemmipaa.Ex
open Go.Proofs
set_option maxRecDepth 100000
set_option maxHeartbeats 2000000
set_option linter.unusedVariables false
set_option linter.unusedSimpArgs false
def offE : E := (false, [], [], [], 0, 0)
def setE (e : E) (T : Int) (v : I) : E := (e.1, e.2.1.set T.toNat v, e.2.2)
def sideV (e : E) (X Y r : Int) (x y : I) : E :=
  bif X == Y then bif empB (mSpan (refI r x y).1 (refI r x y).2) then offE else setE (setE e X (mSpan (refI r x y).1 (refI r x y).2)) Y (mSpan (refI r x y).1 (refI r x y).2)
  else bif empB (refI r x y).1 then offE else bif empB (refI r x y).2 then offE else setE (setE e X (refI r x y).1) Y (refI r x y).2
theorem decE (z : I) : decide (z.1 > z.2) = empB z := rfl
theorem val_1 (u : U) (t n : Int) (e : E) (l : List En) (c : C) (T X Y G N op nx el : Int)  (hu : unitOK u) (hE : ∀ x ∈ l, entOK x) (hn : l.length ≤ 1000) (he : envOK u t e) (hc : u.2.2.2[t.toNat]? = some c) (ha : actOK u c (1, T, X, Y, G, N, op, nx, el)) : bF u t n e l c (1, T, X, Y, G, N, op, nx, el) = some (setE e T (N, N), offE, [], [], []) := by
  obtain ⟨c', hc', hv⟩ := he.c
  obtain rfl : c' = c := by rw [hc] at hc'; exact (Option.some.inj hc').symm
  have cv := (hu.ts c' (List.mem_of_getElem? hc')).v
  have V0 : e.2.1.length ≤ 1000 := by omega
  have G0 : e.2.2.1.length ≤ 1000 := by rw [he.g]; have := hu.g; omega
  have A0 : e.2.2.2.1.length ≤ 1000 := by rw [he.a]; have := hu.a; omega
  have hm := he.must
  have hy := he.may
  have hn' : l.length < 9223372036854775807 := by omega
  have hn2 : l.length < 1000000000000 := by omega
  have hT : 0 ≤ T ∧ T < c'.1 := inB_iff.1 ha.h1
  have eT : decide (0 ≤ T) = true := decide_eq_true hT.1
  have lT : T.toNat < e.2.1.length := by omega
  have hN : fitB N = true := ha.n
  (simp only [F_1, itv_of N hN, List.nil_append, List.length_nil, Nat.zero_add, List.length_set, limc V0, limc G0, limc A0, cond_true, cond_false, optC_some, Bool.not_true, Bool.not_false, eT, look lT]) <;> rfl
theorem val_2 (u : U) (t n : Int) (e : E) (l : List En) (c : C) (T X Y G N op nx el : Int) {x : I} (gx : e.2.1[X.toNat]? = some x) (hu : unitOK u) (hE : ∀ x ∈ l, entOK x) (hn : l.length ≤ 1000) (he : envOK u t e) (hc : u.2.2.2[t.toNat]? = some c) (ha : actOK u c (2, T, X, Y, G, N, op, nx, el)) : bF u t n e l c (2, T, X, Y, G, N, op, nx, el) = some (setE e T x, offE, [], [], []) := by
  obtain ⟨c', hc', hv⟩ := he.c
  obtain rfl : c' = c := by rw [hc] at hc'; exact (Option.some.inj hc').symm
  have cv := (hu.ts c' (List.mem_of_getElem? hc')).v
  have V0 : e.2.1.length ≤ 1000 := by omega
  have G0 : e.2.2.1.length ≤ 1000 := by rw [he.g]; have := hu.g; omega
  have A0 : e.2.2.2.1.length ≤ 1000 := by rw [he.a]; have := hu.a; omega
  have hm := he.must
  have hy := he.may
  have hn' : l.length < 9223372036854775807 := by omega
  have hn2 : l.length < 1000000000000 := by omega
  have hT : 0 ≤ T ∧ T < c'.1 := inB_iff.1 ha.h1
  have eT : decide (0 ≤ T) = true := decide_eq_true hT.1
  have lT : T.toNat < e.2.1.length := by omega
  have hX : 0 ≤ X ∧ X < c'.1 := inB_iff.1 ha.h2
  have eX : decide (0 ≤ X) = true := decide_eq_true hX.1
  have lX : X.toNat < e.2.1.length := by omega
  (simp only [F_2, gx, List.nil_append, List.length_nil, Nat.zero_add, List.length_set, limc V0, limc G0, limc A0, cond_true, cond_false, optC_some, Bool.not_true, Bool.not_false, eT, eX, look lT]) <;> rfl
theorem val_3 (u : U) (t n : Int) (e : E) (l : List En) (c : C) (T X Y G N op nx el : Int)  (hu : unitOK u) (hE : ∀ x ∈ l, entOK x) (hn : l.length ≤ 1000) (he : envOK u t e) (hc : u.2.2.2[t.toNat]? = some c) (ha : actOK u c (3, T, X, Y, G, N, op, nx, el)) : bF u t n e l c (3, T, X, Y, G, N, op, nx, el) = some (setE e T (-2147483648, 2147483647), offE, [], [], []) := by
  obtain ⟨c', hc', hv⟩ := he.c
  obtain rfl : c' = c := by rw [hc] at hc'; exact (Option.some.inj hc').symm
  have cv := (hu.ts c' (List.mem_of_getElem? hc')).v
  have V0 : e.2.1.length ≤ 1000 := by omega
  have G0 : e.2.2.1.length ≤ 1000 := by rw [he.g]; have := hu.g; omega
  have A0 : e.2.2.2.1.length ≤ 1000 := by rw [he.a]; have := hu.a; omega
  have hm := he.must
  have hy := he.may
  have hn' : l.length < 9223372036854775807 := by omega
  have hn2 : l.length < 1000000000000 := by omega
  have hT : 0 ≤ T ∧ T < c'.1 := inB_iff.1 ha.h1
  have eT : decide (0 ≤ T) = true := decide_eq_true hT.1
  have lT : T.toNat < e.2.1.length := by omega
  (simp only [F_3, List.nil_append, List.length_nil, Nat.zero_add, List.length_set, limc V0, limc G0, limc A0, cond_true, cond_false, optC_some, Bool.not_true, Bool.not_false, eT, look lT]) <;> rfl
theorem val_4 (u : U) (t n : Int) (e : E) (l : List En) (c : C) (T X Y G N op nx el : Int) {x : I} (gx : e.2.1[X.toNat]? = some x) {y : I} (gy : e.2.1[Y.toNat]? = some y) (hu : unitOK u) (hE : ∀ x ∈ l, entOK x) (hn : l.length ≤ 1000) (he : envOK u t e) (hc : u.2.2.2[t.toNat]? = some c) (ha : actOK u c (4, T, X, Y, G, N, op, nx, el)) : bF u t n e l c (4, T, X, Y, G, N, op, nx, el) = some (bif empB (doI op x y).1 then offE else setE e T (doI op x y).1, offE, (bif (doI op x y).2.1 then [7] else []) ++ (bif (doI op x y).2.2 then [8] else []), [], []) := by
  obtain ⟨c', hc', hv⟩ := he.c
  obtain rfl : c' = c := by rw [hc] at hc'; exact (Option.some.inj hc').symm
  have cv := (hu.ts c' (List.mem_of_getElem? hc')).v
  have V0 : e.2.1.length ≤ 1000 := by omega
  have G0 : e.2.2.1.length ≤ 1000 := by rw [he.g]; have := hu.g; omega
  have A0 : e.2.2.2.1.length ≤ 1000 := by rw [he.a]; have := hu.a; omega
  have hm := he.must
  have hy := he.may
  have hn' : l.length < 9223372036854775807 := by omega
  have hn2 : l.length < 1000000000000 := by omega
  have hT : 0 ≤ T ∧ T < c'.1 := inB_iff.1 ha.h1
  have eT : decide (0 ≤ T) = true := decide_eq_true hT.1
  have lT : T.toNat < e.2.1.length := by omega
  have hX : 0 ≤ X ∧ X < c'.1 := inB_iff.1 ha.h2
  have eX : decide (0 ≤ X) = true := decide_eq_true hX.1
  have lX : X.toNat < e.2.1.length := by omega
  have hY : 0 ≤ Y ∧ Y < c'.1 := inB_iff.1 ha.h3
  have eY : decide (0 ≤ Y) = true := decide_eq_true hY.1
  have lY : Y.toNat < e.2.1.length := by omega
  have vx := he.v x (List.mem_append_left _ (List.mem_append_left _ (List.mem_of_getElem? gx)))
  have vy := he.v y (List.mem_append_left _ (List.mem_append_left _ (List.mem_of_getElem? gy)))
  have d1 := n_itv_Do op x y vx.1 vy.1
  generalize doI op x y = r at d1
  obtain ⟨z, o, w⟩ := r
  simp only at d1
  cases o <;> cases w <;> cases k : empB z
  all_goals (simp only [F_4, gx, gy, G_itv_Do, d1, decE, k, List.nil_append, List.length_nil, Nat.zero_add, List.length_set, limc V0, limc G0, limc A0, cond_true, cond_false, optC_some, Bool.not_true, Bool.not_false, eT, eX, eY, look lT]) <;> rfl
theorem val_5 (u : U) (t n : Int) (e : E) (l : List En) (c : C) (T X Y G N op nx el : Int) {gd : I} (hgd : e.2.2.1[G.toNat]? = some gd) (hu : unitOK u) (hE : ∀ x ∈ l, entOK x) (hn : l.length ≤ 1000) (he : envOK u t e) (hc : u.2.2.2[t.toNat]? = some c) (ha : actOK u c (5, T, X, Y, G, N, op, nx, el)) : bF u t n e l c (5, T, X, Y, G, N, op, nx, el) = some (setE e T (readV gd l t false G e.2.2.2.2.1), offE, [], [], [(t, n, false, G, false, e.2.2.2.2.1)]) := by
  obtain ⟨c', hc', hv⟩ := he.c
  obtain rfl : c' = c := by rw [hc] at hc'; exact (Option.some.inj hc').symm
  have cv := (hu.ts c' (List.mem_of_getElem? hc')).v
  have V0 : e.2.1.length ≤ 1000 := by omega
  have G0 : e.2.2.1.length ≤ 1000 := by rw [he.g]; have := hu.g; omega
  have A0 : e.2.2.2.1.length ≤ 1000 := by rw [he.a]; have := hu.a; omega
  have hm := he.must
  have hy := he.may
  have hn' : l.length < 9223372036854775807 := by omega
  have hn2 : l.length < 1000000000000 := by omega
  have hT : 0 ≤ T ∧ T < c'.1 := inB_iff.1 ha.h1
  have eT : decide (0 ≤ T) = true := decide_eq_true hT.1
  have lT : T.toNat < e.2.1.length := by omega
  have hG : 0 ≤ G ∧ G < (u.1.length : Int) := inB_iff.1 ha.h4
  have eG : decide (0 ≤ G) = true := decide_eq_true hG.1
  have lG : G.toNat < e.2.2.1.length := by rw [he.g]; omega
  have r1 := n_flow_Read u t e l false G gd hG.1 hgd hm hE hn'
  (simp only [F_5, G_flow_Read, r1, List.nil_append, List.length_nil, Nat.zero_add, List.length_set, limc V0, limc G0, limc A0, cond_true, cond_false, optC_some, Bool.not_true, Bool.not_false, eT, look lT]) <;> rfl
theorem val_6 (u : U) (t n : Int) (e : E) (l : List En) (c : C) (T X Y G N op nx el : Int) {x : I} (gx : e.2.1[X.toNat]? = some x) (hu : unitOK u) (hE : ∀ x ∈ l, entOK x) (hn : l.length ≤ 1000) (he : envOK u t e) (hc : u.2.2.2[t.toNat]? = some c) (ha : actOK u c (6, T, X, Y, G, N, op, nx, el)) : bF u t n e l c (6, T, X, Y, G, N, op, nx, el) = some ((e.1, e.2.1, e.2.2.1.set G.toNat x, e.2.2.2), offE, [], [(t, false, G, e.2.2.2.2.1, x)], [(t, n, false, G, true, e.2.2.2.2.1)]) := by
  obtain ⟨c', hc', hv⟩ := he.c
  obtain rfl : c' = c := by rw [hc] at hc'; exact (Option.some.inj hc').symm
  have cv := (hu.ts c' (List.mem_of_getElem? hc')).v
  have V0 : e.2.1.length ≤ 1000 := by omega
  have G0 : e.2.2.1.length ≤ 1000 := by rw [he.g]; have := hu.g; omega
  have A0 : e.2.2.2.1.length ≤ 1000 := by rw [he.a]; have := hu.a; omega
  have hm := he.must
  have hy := he.may
  have hn' : l.length < 9223372036854775807 := by omega
  have hn2 : l.length < 1000000000000 := by omega
  have hX : 0 ≤ X ∧ X < c'.1 := inB_iff.1 ha.h2
  have eX : decide (0 ≤ X) = true := decide_eq_true hX.1
  have lX : X.toNat < e.2.1.length := by omega
  have hG : 0 ≤ G ∧ G < (u.1.length : Int) := inB_iff.1 ha.h4
  have eG : decide (0 ≤ G) = true := decide_eq_true hG.1
  have lG : G.toNat < e.2.2.1.length := by rw [he.g]; omega
  (simp only [F_6, gx, List.nil_append, List.length_nil, Nat.zero_add, List.length_set, limc V0, limc G0, limc A0, cond_true, cond_false, optC_some, Bool.not_true, Bool.not_false, eX, eG, look lG]) <;> rfl
theorem val_7 (u : U) (t n : Int) (e : E) (l : List En) (c : C) (T X Y G N op nx el : Int) {x : I} (gx : e.2.1[X.toNat]? = some x) {m : Int} (gm : u.2.1[G.toNat]? = some m) {gd : I} (hgd : e.2.2.2.1[G.toNat]? = some gd) (hu : unitOK u) (hE : ∀ x ∈ l, entOK x) (hn : l.length ≤ 1000) (he : envOK u t e) (hc : u.2.2.2[t.toNat]? = some c) (ha : actOK u c (7, T, X, Y, G, N, op, nx, el)) : bF u t n e l c (7, T, X, Y, G, N, op, nx, el) = some (bif empB (mSpan x (0, m - 1)) then offE else setE (setE e X (mSpan x (0, m - 1))) T (readV gd l t true G e.2.2.2.2.1), offE, (bif leqB x (0, m - 1) then [] else [9]), [], [(t, n, true, G, false, e.2.2.2.2.1)]) := by
  obtain ⟨c', hc', hv⟩ := he.c
  obtain rfl : c' = c := by rw [hc] at hc'; exact (Option.some.inj hc').symm
  have cv := (hu.ts c' (List.mem_of_getElem? hc')).v
  have V0 : e.2.1.length ≤ 1000 := by omega
  have G0 : e.2.2.1.length ≤ 1000 := by rw [he.g]; have := hu.g; omega
  have A0 : e.2.2.2.1.length ≤ 1000 := by rw [he.a]; have := hu.a; omega
  have hm := he.must
  have hy := he.may
  have hn' : l.length < 9223372036854775807 := by omega
  have hn2 : l.length < 1000000000000 := by omega
  have hT : 0 ≤ T ∧ T < c'.1 := inB_iff.1 ha.h1
  have eT : decide (0 ≤ T) = true := decide_eq_true hT.1
  have lT : T.toNat < e.2.1.length := by omega
  have hX : 0 ≤ X ∧ X < c'.1 := inB_iff.1 ha.h2
  have eX : decide (0 ≤ X) = true := decide_eq_true hX.1
  have lX : X.toNat < e.2.1.length := by omega
  have vx := he.v x (List.mem_append_left _ (List.mem_append_left _ (List.mem_of_getElem? gx)))
  have hG : 0 ≤ G ∧ G < (u.2.1.length : Int) := inB_iff.1 ha.h4
  have eG : decide (0 ≤ G) = true := decide_eq_true hG.1
  have lG : G.toNat < e.2.2.2.1.length := by rw [he.a]; omega
  have vm := hu.ars m (List.mem_of_getElem? gm)
  have hr : IntKind.i64.wrap (m - 1) = m - 1 := wrap_fits (by omega) (by omega)
  have r0 : empB (0, m - 1) = false := emp_no (by show (0 : Int) ≤ m - 1; omega)
  have rB : isB (0, m - 1) = true := by simp [isB, fitB]; omega
  have q1 := n_itv_Leq x (0, m - 1)
  have q2 := n_ref2_Leq x (0, m - 1)
  have q3 := n_itv_Meet x (0, m - 1)
  have q4 := n_ref2_Meet x (0, m - 1)
  rw [meet_span vx.2 r0] at q3
  have zB := mSpan_ok (y := x) (p := (0, m - 1)) vx.1 rB
  generalize mSpan x (0, m - 1) = z at q3 q4 zB
  have r1 := n_flow_Read u t (e.1, e.2.1.set X.toNat z, e.2.2) l true G gd hG.1 hgd hm hE hn'
  have lT2 : T.toNat < (e.2.1.set X.toNat z).length := by rw [List.length_set]; exact lT
  cases k1 : leqB x (0, m - 1) <;> cases k2 : empB z
  all_goals rw [k1] at q1
  all_goals (simp only [F_7, gm, gx, hr, G_itv_Leq, q1, G_itv_Meet, q3, decE, k2, G_flow_Read, r1, List.nil_append, List.length_nil, Nat.zero_add, List.length_set, limc V0, limc G0, limc A0, cond_true, cond_false, optC_some, Bool.not_true, Bool.not_false, eT, eX, eG, look lX, look lT2]) <;> rfl
theorem val_8 (u : U) (t n : Int) (e : E) (l : List En) (c : C) (T X Y G N op nx el : Int) {x : I} (gx : e.2.1[X.toNat]? = some x) {y : I} (gy : e.2.1[Y.toNat]? = some y) {m : Int} (gm : u.2.1[G.toNat]? = some m) {gd y' : I} (hgd : e.2.2.2.1[G.toNat]? = some gd) (gy' : (e.2.1.set X.toNat (mSpan x (0, m - 1)))[Y.toNat]? = some y') (hu : unitOK u) (hE : ∀ x ∈ l, entOK x) (hn : l.length ≤ 1000) (he : envOK u t e) (hc : u.2.2.2[t.toNat]? = some c) (ha : actOK u c (8, T, X, Y, G, N, op, nx, el)) : bF u t n e l c (8, T, X, Y, G, N, op, nx, el) = some (bif empB (mSpan x (0, m - 1)) then offE else (e.1, e.2.1.set X.toNat (mSpan x (0, m - 1)), e.2.2.1, e.2.2.2.1.set G.toNat (rJoin gd y'), e.2.2.2.2), offE, (bif leqB x (0, m - 1) then [] else [9]), [(t, true, G, e.2.2.2.2.1, y)], [(t, n, true, G, true, e.2.2.2.2.1)]) := by
  obtain ⟨c', hc', hv⟩ := he.c
  obtain rfl : c' = c := by rw [hc] at hc'; exact (Option.some.inj hc').symm
  have cv := (hu.ts c' (List.mem_of_getElem? hc')).v
  have V0 : e.2.1.length ≤ 1000 := by omega
  have G0 : e.2.2.1.length ≤ 1000 := by rw [he.g]; have := hu.g; omega
  have A0 : e.2.2.2.1.length ≤ 1000 := by rw [he.a]; have := hu.a; omega
  have hm := he.must
  have hy := he.may
  have hn' : l.length < 9223372036854775807 := by omega
  have hn2 : l.length < 1000000000000 := by omega
  have hX : 0 ≤ X ∧ X < c'.1 := inB_iff.1 ha.h2
  have eX : decide (0 ≤ X) = true := decide_eq_true hX.1
  have lX : X.toNat < e.2.1.length := by omega
  have hY : 0 ≤ Y ∧ Y < c'.1 := inB_iff.1 ha.h3
  have eY : decide (0 ≤ Y) = true := decide_eq_true hY.1
  have lY : Y.toNat < e.2.1.length := by omega
  have vx := he.v x (List.mem_append_left _ (List.mem_append_left _ (List.mem_of_getElem? gx)))
  have hG : 0 ≤ G ∧ G < (u.2.1.length : Int) := inB_iff.1 ha.h4
  have eG : decide (0 ≤ G) = true := decide_eq_true hG.1
  have lG : G.toNat < e.2.2.2.1.length := by rw [he.a]; omega
  have vm := hu.ars m (List.mem_of_getElem? gm)
  have hr : IntKind.i64.wrap (m - 1) = m - 1 := wrap_fits (by omega) (by omega)
  have r0 : empB (0, m - 1) = false := emp_no (by show (0 : Int) ≤ m - 1; omega)
  have rB : isB (0, m - 1) = true := by simp [isB, fitB]; omega
  have q1 := n_itv_Leq x (0, m - 1)
  have q2 := n_ref2_Leq x (0, m - 1)
  have q3 := n_itv_Meet x (0, m - 1)
  have q4 := n_ref2_Meet x (0, m - 1)
  rw [meet_span vx.2 r0] at q3
  have zB := mSpan_ok (y := x) (p := (0, m - 1)) vx.1 rB
  generalize mSpan x (0, m - 1) = z at q3 q4 zB gy'
  cases k1 : leqB x (0, m - 1) <;> cases k2 : empB z
  all_goals
    rw [k1] at q1
    have yB : empB z = false → isB y' = true := fun h => by
      rcases List.mem_or_eq_of_mem_set (List.mem_of_getElem? gy') with h1 | h1
      · exact (he.v y' (List.mem_append_left _ (List.mem_append_left _ h1))).1
      · rw [h1]; exact zB h
    have JE : (iJoin gd y' = rJoin gd y') ∨ empB z = true := by
      cases h : empB z
      · exact .inl (join_eq (yB h))
      · exact .inr rfl
    rw [k2] at JE
    simp only [Bool.true_eq_false, Bool.false_eq_true, or_false, or_true] at JE
    (simp only [F_8, gm, gx, gy, gy', hgd, hr, G_itv_Leq, q1, G_itv_Meet, q3, decE, k2, G_itv_Join, n_itv_Join2, JE, List.nil_append, List.length_nil, Nat.zero_add, List.length_set, limc V0, limc G0, limc A0, cond_true, cond_false, optC_some, Bool.not_true, Bool.not_false, eY, eX, eG, look lX]) <;> rfl
theorem val_9 (u : U) (t n : Int) (e : E) (l : List En) (c : C) (T X Y G N op nx el : Int)  (hu : unitOK u) (hE : ∀ x ∈ l, entOK x) (hn : l.length ≤ 1000) (he : envOK u t e) (hc : u.2.2.2[t.toNat]? = some c) (ha : actOK u c (9, T, X, Y, G, N, op, nx, el)) : bF u t n e l c (9, T, X, Y, G, N, op, nx, el) = some (bif tb e.2.2.2.2.1 G then offE else (e.1, e.2.1, gmap l t false e.2.2.2.2.1 G e.2.2.1, gmap l t true e.2.2.2.2.1 G e.2.2.2.1, wiI e.2.2.2.2.1 G, wiI e.2.2.2.2.2 G), offE, (bif tb e.2.2.2.2.2 G then [11] else []), [], []) := by
  obtain ⟨c', hc', hv⟩ := he.c
  obtain rfl : c' = c := by rw [hc] at hc'; exact (Option.some.inj hc').symm
  have cv := (hu.ts c' (List.mem_of_getElem? hc')).v
  have V0 : e.2.1.length ≤ 1000 := by omega
  have G0 : e.2.2.1.length ≤ 1000 := by rw [he.g]; have := hu.g; omega
  have A0 : e.2.2.2.1.length ≤ 1000 := by rw [he.a]; have := hu.a; omega
  have hm := he.must
  have hy := he.may
  have hn' : l.length < 9223372036854775807 := by omega
  have hn2 : l.length < 1000000000000 := by omega
  have hG : 0 ≤ G ∧ G < u.2.2.1 := inB_iff.1 ha.h4
  have hM : 0 ≤ G ∧ G < 31 := by have := hu.m; omega
  have a1 := n_held_Has e.2.2.2.2.1 G (by omega)
  have a2 := n_held_Has e.2.2.2.2.2 G (by omega)
  have w1 := n_held_With e.2.2.2.2.1 G hm
  have w2 := n_held_With e.2.2.2.2.2 G hy
  have G1 : e.2.2.1.length < 9223372036854775807 := by omega
  have A1 : e.2.2.2.1.length < 9223372036854775807 := by omega
  cases k1 : tb e.2.2.2.2.1 G <;> cases k2 : tb e.2.2.2.2.2 G
  all_goals
    rw [k1] at a1
    rw [k2] at a2
    (simp only [F_9, G_held_Has, a1, a2, G_held_With, w1, w2, G_flow_deed_gains, g_flow_deed_gains, mg_flow_deed_gains_133_0_0 hm hE hn2 G1, mg_flow_deed_gains_133_0_0 hm hE hn2 A1, List.nil_append, List.length_nil, Nat.zero_add, List.length_set, limc V0, limc G0, limc A0, cond_true, cond_false, optC_some, Bool.not_true, Bool.not_false]) <;> rfl
theorem val_10 (u : U) (t n : Int) (e : E) (l : List En) (c : C) (T X Y G N op nx el : Int)  (hu : unitOK u) (hE : ∀ x ∈ l, entOK x) (hn : l.length ≤ 1000) (he : envOK u t e) (hc : u.2.2.2[t.toNat]? = some c) (ha : actOK u c (10, T, X, Y, G, N, op, nx, el)) : bF u t n e l c (10, T, X, Y, G, N, op, nx, el) = some (bif tb e.2.2.2.2.2 G then (e.1, e.2.1, e.2.2.1, e.2.2.2.1, woI e.2.2.2.2.1 G, woI e.2.2.2.2.2 G) else offE, offE, (bif tb e.2.2.2.2.1 G then [] else [12]), [], []) := by
  obtain ⟨c', hc', hv⟩ := he.c
  obtain rfl : c' = c := by rw [hc] at hc'; exact (Option.some.inj hc').symm
  have cv := (hu.ts c' (List.mem_of_getElem? hc')).v
  have V0 : e.2.1.length ≤ 1000 := by omega
  have G0 : e.2.2.1.length ≤ 1000 := by rw [he.g]; have := hu.g; omega
  have A0 : e.2.2.2.1.length ≤ 1000 := by rw [he.a]; have := hu.a; omega
  have hm := he.must
  have hy := he.may
  have hn' : l.length < 9223372036854775807 := by omega
  have hn2 : l.length < 1000000000000 := by omega
  have hG : 0 ≤ G ∧ G < u.2.2.1 := inB_iff.1 ha.h4
  have hM : 0 ≤ G ∧ G < 31 := by have := hu.m; omega
  have a1 := n_held_Has e.2.2.2.2.1 G (by omega)
  have a2 := n_held_Has e.2.2.2.2.2 G (by omega)
  cases k1 : tb e.2.2.2.2.1 G <;> cases k2 : tb e.2.2.2.2.2 G
  all_goals
    rw [k1] at a1
    rw [k2] at a2
    (simp only [F_10, G_held_Has, a1, a2, G_held_Without, n_held_Without, List.nil_append, List.length_nil, Nat.zero_add, List.length_set, limc V0, limc G0, limc A0, cond_true, cond_false, optC_some, Bool.not_true, Bool.not_false]) <;> rfl
theorem val_11 (u : U) (t n : Int) (e : E) (l : List En) (c : C) (T X Y G N op nx el : Int) {x : I} (gx : e.2.1[X.toNat]? = some x) {y : I} (gy : e.2.1[Y.toNat]? = some y) {w : Int} (n1 : g_num_Not op = some w) (hu : unitOK u) (hE : ∀ x ∈ l, entOK x) (hn : l.length ≤ 1000) (he : envOK u t e) (hc : u.2.2.2[t.toNat]? = some c) (ha : actOK u c (11, T, X, Y, G, N, op, nx, el)) : bF u t n e l c (11, T, X, Y, G, N, op, nx, el) = some (sideV e X Y op x y, sideV e X Y w x y, [], [], []) := by
  obtain ⟨c', hc', hv⟩ := he.c
  obtain rfl : c' = c := by rw [hc] at hc'; exact (Option.some.inj hc').symm
  have cv := (hu.ts c' (List.mem_of_getElem? hc')).v
  have V0 : e.2.1.length ≤ 1000 := by omega
  have G0 : e.2.2.1.length ≤ 1000 := by rw [he.g]; have := hu.g; omega
  have A0 : e.2.2.2.1.length ≤ 1000 := by rw [he.a]; have := hu.a; omega
  have hm := he.must
  have hy := he.may
  have hn' : l.length < 9223372036854775807 := by omega
  have hn2 : l.length < 1000000000000 := by omega
  have hX : 0 ≤ X ∧ X < c'.1 := inB_iff.1 ha.h2
  have eX : decide (0 ≤ X) = true := decide_eq_true hX.1
  have lX : X.toNat < e.2.1.length := by omega
  have hY : 0 ≤ Y ∧ Y < c'.1 := inB_iff.1 ha.h3
  have eY : decide (0 ≤ Y) = true := decide_eq_true hY.1
  have lY : Y.toNat < e.2.1.length := by omega
  have vx := he.v x (List.mem_append_left _ (List.mem_append_left _ (List.mem_of_getElem? gx)))
  have vy := he.v y (List.mem_append_left _ (List.mem_append_left _ (List.mem_of_getElem? gy)))
  have f1 := n_itv_Refine op x y vx.1 vy.1
  have f3 := n_itv_Refine w x y vx.1 vy.1
  have p1 := ref_meet op x y
  have p3 := ref_meet w x y
  unfold sideV
  generalize refI op x y = a at f1 p1
  generalize refI w x y = b at f3 p3
  have m1 := n_itv_Meet a.1 a.2
  have m3 := n_itv_Meet b.1 b.2
  rw [p1] at m1
  rw [p3] at m3
  generalize mSpan a.1 a.2 = z at m1
  generalize mSpan b.1 b.2 = o at m3
  have lY2 (v : I) : Y.toNat < (e.2.1.set X.toNat v).length := by rw [List.length_set]; exact lY
  cases kXY : X == Y
  · cases k1 : empB a.1 <;> cases k2 : empB a.2 <;> cases k3 : empB b.1 <;> cases k4 : empB b.2
    all_goals (simp only [F_11, gx, gy, G_itv_Refine, f1, f3, G_num_Not, n1, G_itv_Meet, m1, m3, kXY, G_env_None, g_env_None, decE, k1, k2, k3, k4, List.nil_append, List.length_nil, Nat.zero_add, List.length_set, limc V0, limc G0, limc A0, cond_true, cond_false, optC_some, Bool.not_true, Bool.not_false, eX, eY, look lX, look (lY2 _)]) <;> rfl
  · cases k1 : empB z <;> cases k3 : empB o
    all_goals (simp only [F_11, gx, gy, G_itv_Refine, f1, f3, G_num_Not, n1, G_itv_Meet, m1, m3, kXY, G_env_None, g_env_None, decE, k1, k3, List.nil_append, List.length_nil, Nat.zero_add, List.length_set, limc V0, limc G0, limc A0, cond_true, cond_false, optC_some, Bool.not_true, Bool.not_false, eX, eY, look lX, look (lY2 _)]) <;> rfl
theorem val_12 (u : U) (t n : Int) (e : E) (l : List En) (c : C) (T X Y G N op nx el : Int)  (hu : unitOK u) (hE : ∀ x ∈ l, entOK x) (hn : l.length ≤ 1000) (he : envOK u t e) (hc : u.2.2.2[t.toNat]? = some c) (ha : actOK u c (12, T, X, Y, G, N, op, nx, el)) : bF u t n e l c (12, T, X, Y, G, N, op, nx, el) = some (e, offE, [], [], []) := by
  obtain ⟨c', hc', hv⟩ := he.c
  obtain rfl : c' = c := by rw [hc] at hc'; exact (Option.some.inj hc').symm
  have cv := (hu.ts c' (List.mem_of_getElem? hc')).v
  have V0 : e.2.1.length ≤ 1000 := by omega
  have G0 : e.2.2.1.length ≤ 1000 := by rw [he.g]; have := hu.g; omega
  have A0 : e.2.2.2.1.length ≤ 1000 := by rw [he.a]; have := hu.a; omega
  have hm := he.must
  have hy := he.may
  have hn' : l.length < 9223372036854775807 := by omega
  have hn2 : l.length < 1000000000000 := by omega
  (simp only [F_12]) <;> rfl
theorem val_13 (u : U) (t n : Int) (e : E) (l : List En) (c : C) (T X Y G N op nx el : Int)  (hu : unitOK u) (hE : ∀ x ∈ l, entOK x) (hn : l.length ≤ 1000) (he : envOK u t e) (hc : u.2.2.2[t.toNat]? = some c) (ha : actOK u c (13, T, X, Y, G, N, op, nx, el)) : bF u t n e l c (13, T, X, Y, G, N, op, nx, el) = some (offE, offE, [10], [], []) := by
  obtain ⟨c', hc', hv⟩ := he.c
  obtain rfl : c' = c := by rw [hc] at hc'; exact (Option.some.inj hc').symm
  have cv := (hu.ts c' (List.mem_of_getElem? hc')).v
  have V0 : e.2.1.length ≤ 1000 := by omega
  have G0 : e.2.2.1.length ≤ 1000 := by rw [he.g]; have := hu.g; omega
  have A0 : e.2.2.2.1.length ≤ 1000 := by rw [he.a]; have := hu.a; omega
  have hm := he.must
  have hy := he.may
  have hn' : l.length < 9223372036854775807 := by omega
  have hn2 : l.length < 1000000000000 := by omega
  (simp only [F_13]) <;> rfl
theorem val_14 (u : U) (t n : Int) (e : E) (l : List En) (c : C) (T X Y G N op nx el : Int)  (hu : unitOK u) (hE : ∀ x ∈ l, entOK x) (hn : l.length ≤ 1000) (he : envOK u t e) (hc : u.2.2.2[t.toNat]? = some c) (ha : actOK u c (14, T, X, Y, G, N, op, nx, el)) : bF u t n e l c (14, T, X, Y, G, N, op, nx, el) = some (offE, offE, [], [], []) := by
  obtain ⟨c', hc', hv⟩ := he.c
  obtain rfl : c' = c := by rw [hc] at hc'; exact (Option.some.inj hc').symm
  have cv := (hu.ts c' (List.mem_of_getElem? hc')).v
  have V0 : e.2.1.length ≤ 1000 := by omega
  have G0 : e.2.2.1.length ≤ 1000 := by rw [he.g]; have := hu.g; omega
  have A0 : e.2.2.2.1.length ≤ 1000 := by rw [he.a]; have := hu.a; omega
  have hm := he.must
  have hy := he.may
  have hn' : l.length < 9223372036854775807 := by omega
  have hn2 : l.length < 1000000000000 := by omega
  (simp only [F_14]) <;> rfl
end Go.Proofs.Ytbdcblpjemmipaa.Ex

namespace Go.Proofs.Ytbdcblpjemmipaa.Ex
open Go.Proofs Go.Proofs.Ytbdcblpjemmipaa
set_option maxRecDepth 100000
set_option maxHeartbeats 2000000
set_option linter.unusedVariables false
set_option linter.unusedSimpArgs false
def ash_ref11_row : List Sh := [.dat (.sl tI), .dat (.int .i64)]
noncomputable def sp_ref11_row : Nat → Option (List AV → Prog AV)
  | 50 => some (con_ref2_None)
  | _ => none
theorem hsp_ref11_row : ∀ g p, sp_ref11_row g = some p → SoundA Try.prog g p := by
  intro g p h
  unfold sp_ref11_row at h
  split at h
  · cases h; exact snd_ref2_None
  · cases h
noncomputable def cx_ref11_row : Ctx := { tab := tab, spec := sp_ref11_row, inl := inl, lps := fun _ _ => none, fuel := 40 }
theorem in_ref11_row : InlOk Try.prog cx_ref11_row := ⟨inl_ok, fun _ _ _ _ _ _ _ _ h => nomatch h⟩
theorem cal_ref11_row (g : Nat) : SoundA Try.prog g (evF cx_ref11_row keeps 8 g) := evF_sound (tabOk_of tab_ok) (cmpsOk_of tab_ok cmps_ok) mixed in_ref11_row hsp_ref11_row keeps 8 g
noncomputable def g_ref11_row (a0 : (List I)) (a1 : Int) : Option I :=
  bif decide (a1 < (↑a0.length : Int)) then bif decide (0 ≤ a1) then optC a0[a1.toNat]? none fun d3 ↦ some (d3.1, d3.2) else none
 else some (1, 0)
theorem raw_ref11_row (a0 : (List I)) (a1 : Int) : evGX cx_ref11_row keeps 8 121 ash_ref11_row (.dat tI) ((a0, a1, ()) : ((List I) × (Int × Unit))) = g_ref11_row a0 a1 := by kernel_rfl
noncomputable def G_ref11_row (x : ((List I) × (Int × Unit))) : Option I := g_ref11_row x.1 x.2.1
noncomputable def con_ref11_row : List AV → Prog AV := conP true ash_ref11_row (.dat tI) G_ref11_row
theorem snd_ref11_row : SoundA Try.prog 121 con_ref11_row := conP_sound (cal_ref11_row 121) true (by rfl) (by rfl) (fun x r e => (evGX_eq _ _ _ _ _ _ _).trans ((raw_ref11_row x.1 x.2.1).trans e)) (.inl rfl)
end Go.Proofs.Ytbdcblpjemmipaa.Ex

namespace Go.Proofs.Ytbdcblpjemmipaa.Ex
open Go.Proofs Go.Proofs.Ytbdcblpjemmipaa
set_option maxRecDepth 100000
set_option maxHeartbeats 2000000
set_option linter.unusedVariables false
set_option linter.unusedSimpArgs false
abbrev fn_154_0 := (fun (d : (((List I) × ((List I) × (Int × Unit))) × Unit)) => ((d.1.1, d.1.2.1, d.1.2.2.1) : ((List I) × (List I) × Int)))
def ash_ref11_leqs : List Sh := [.dat (.sl tI), .dat (.sl tI)]
def kp_ref11_leqs_88_0 : Nat → List Nat := fun c => bif c.beq 0 then [0, 1, 5] else [4]
noncomputable def sp_ref11_leqs : Nat → Option (List AV → Prog AV)
  | 121 => some (con_ref11_row)
  | 16 => some (con_ref2_Leq)
  | _ => none
theorem hsp_ref11_leqs : ∀ g p, sp_ref11_leqs g = some p → SoundA Try.prog g p := by
  intro g p h
  unfold sp_ref11_leqs at h
  split at h
  · cases h; exact snd_ref11_row
  · cases h; exact snd_ref2_Leq
  · cases h
noncomputable def cx_ref11_leqs0 : Ctx := { tab := tab, spec := sp_ref11_leqs, inl := inl, lps := fun _ _ => none, fuel := 40 }
theorem in_ref11_leqs0 : InlOk Try.prog cx_ref11_leqs0 := ⟨inl_ok, fun _ _ _ _ _ _ _ _ h => nomatch h⟩
theorem cal_ref11_leqs0 (g : Nat) : SoundA Try.prog g (evF cx_ref11_leqs0 keeps 8 g) := evF_sound (tabOk_of tab_ok) (cmpsOk_of tab_ok cmps_ok) mixed in_ref11_leqs0 hsp_ref11_leqs keeps 8 g
noncomputable def F_ref11_leqs_88_0 (base : Nat) : Tm → Prog (Nat × Tm) := evC cx_ref11_leqs0 (evF cx_ref11_leqs0 keeps 8) ⟨88, 21, keeps 88, base⟩ 0 (bodyX 88 0)
def s_ref11_leqs_88_0_0 : StS := ⟨[(0, .sl tI), (1, .sl tI), (5, .int .i64)], [], 0⟩
def x_ref11_leqs_88_0_0_0 : StS := ⟨[(4, .undef)], [], 0⟩
def x_ref11_leqs_88_0_0_1 : StS := ⟨[(4, .bool)], [], 0⟩
noncomputable def st_ref11_leqs_88_0_0 (s0 : (List I)) (s1 : (List I)) (s5 : Int) : Option (((List I) × (List I) × Int) ⊕ (Unit ⊕ Bool)) :=
  bif decide (s5 < (↑s0.length : Int)) then
 bif decide (0 ≤ s5) then
 optC s0[s5.toNat]? none fun d5 ↦
 optC (G_ref11_row (s1, s5, ())) none fun d6 ↦
 optC (G_ref2_Leq (d5, d6, ())) none fun d7 ↦ bif !d7 then some (Sum.inr (Sum.inr false)) else some (Sum.inl (s0, s1, Go.IntKind.i64.wrap (s5 + 1)))
 else none
 else some (Sum.inr (Sum.inl PUnit.unit))
theorem rn_ref11_leqs_88_0_0 (s0 : (List I)) (s1 : (List I)) (s5 : Int) : rdX cx_ref11_leqs0 keeps 8 ⟨88, 21, keeps 88, 0⟩ 0 (bodyX 88 0) 0 kp_ref11_leqs_88_0 (sT s_ref11_leqs_88_0_0 ((s0, s1, s5, ()), ())) (sH s_ref11_leqs_88_0_0 ((s0, s1, s5, ()), ())) (rdO (fun T h => (rdS s_ref11_leqs_88_0_0 T h).map fn_154_0) (getOr (getE 2 x_ref11_leqs_88_0_0_0 (fun (d : ((Unit × Unit) × Unit)) => (() : Unit))) (getE 1 x_ref11_leqs_88_0_0_1 (fun (d : ((Bool × Unit) × Unit)) => ((d.1.1) : Bool))))) = st_ref11_leqs_88_0_0 s0 s1 s5 := by kernel_rfl
noncomputable def L_ref11_leqs_88_0_0 (x : ((List I) × (List I) × Int)) : Option (Unit ⊕ Bool) := iterO (fun x => st_ref11_leqs_88_0_0 x.1 x.2.1 x.2.2) FUEL x
noncomputable def q_ref11_leqs_88_0 : Nat → Tm → Prog (Nat × Tm) := (varP 0 (fun T h => (rdS s_ref11_leqs_88_0_0 T h).map fn_154_0) L_ref11_leqs_88_0_0 (fun y => .alt y (altE 2 x_ref11_leqs_88_0_0_0 (fun (x : Unit) => ((((), ()), ()) : ((Unit × Unit) × Unit)))) (altE 1 x_ref11_leqs_88_0_0_1 (fun (x : Bool) => (((x, ()), ()) : ((Bool × Unit) × Unit))))) (fun _ _ => .fail))
theorem ok_ref11_leqs_88_0 : VarOk kp_ref11_leqs_88_0 F_ref11_leqs_88_0 q_ref11_leqs_88_0 := (varX_ok (s := s_ref11_leqs_88_0_0) (un := (fun (x : ((List I) × (List I) × Int)) => (((x.1, x.2.1, x.2.2, ()), ()) : (((List I) × ((List I) × (Int × Unit))) × Unit)))) (by rfl) (fun _ => rfl) (getOr_ok (getE_ok (s := x_ref11_leqs_88_0_0_0) (un := (fun (x : Unit) => ((((), ()), ()) : ((Unit × Unit) × Unit)))) (by rfl) (fun _ => rfl)) (getE_ok (s := x_ref11_leqs_88_0_0_1) (un := (fun (x : Bool) => (((x, ()), ()) : ((Bool × Unit) × Unit)))) (by rfl) (fun _ => rfl))) (step := fun x => st_ref11_leqs_88_0_0 x.1 x.2.1 x.2.2) (fun x => rn_ref11_leqs_88_0_0 x.1 x.2.1 x.2.2) (fun _ _ e => ⟨_, e⟩) (altOr_ok (altE_ok 2 x_ref11_leqs_88_0_0_0 (fun (x : Unit) => ((((), ()), ()) : ((Unit × Unit) × Unit)))) (altE_ok 1 x_ref11_leqs_88_0_0_1 (fun (x : Bool) => (((x, ()), ()) : ((Bool × Unit) × Unit))))) (VarOk.fail _ _))
noncomputable def lpI_ref11_leqs_88_0 (base : Nat) (T : Tm) : Prog (Nat × Tm) := .norm base (kp_ref11_leqs_88_0 0) T (q_ref11_leqs_88_0 base)
theorem sndI_ref11_leqs_88_0 : SoundC Try.prog 21 (.loop (bodyX 88 0)) lpI_ref11_leqs_88_0 := loopK_sound (cx := cx_ref11_leqs0) (cal := evF cx_ref11_leqs0 keeps 8) (kp := keeps 88) (tabOk_of tab_ok) (cmpsOk_of tab_ok cmps_ok) cal_ref11_leqs0 mixed (hl_of (g := 88) (b := 0) in_ref11_leqs0 (by kernel_rfl) (by kernel_rfl)) ok_ref11_leqs_88_0
noncomputable def lpL_ref11_leqs_88_0 : Nat → Tm → Prog (Nat × Tm) := lpI_ref11_leqs_88_0
theorem sndL_ref11_leqs_88_0 : SoundC Try.prog 21 (.loop (bodyX 88 0)) lpL_ref11_leqs_88_0 := sndI_ref11_leqs_88_0
noncomputable def lp_ref11_leqs : Nat → Nat → Option (Nat → Tm → Prog (Nat × Tm))
  | 88, 0 => some lpL_ref11_leqs_88_0
  | _, _ => none
noncomputable def cx_ref11_leqs : Ctx := { tab := tab, spec := sp_ref11_leqs, inl := inl, lps := lp_ref11_leqs, fuel := 40 }
theorem in_ref11_leqs : InlOk Try.prog cx_ref11_leqs := ⟨inl_ok, fun g fn c hg hb q hq p hp => by
  change lp_ref11_leqs g q.1 = some p at hp
  change inl g = some fn at hg
  generalize hq1 : q.1 = b at hp
  unfold lp_ref11_leqs at hp
  split at hp
  · cases hp; exact lps_case (inl := inl) hg hb hq hq1 (by kernel_rfl) (by kernel_rfl) sndL_ref11_leqs_88_0
  · cases hp⟩
theorem cal_ref11_leqs (g : Nat) : SoundA Try.prog g (evF cx_ref11_leqs keeps 8 g) := evF_sound (tabOk_of tab_ok) (cmpsOk_of tab_ok cmps_ok) mixed in_ref11_leqs hsp_ref11_leqs keeps 8 g
noncomputable def g_ref11_leqs (a0 : (List I)) (a1 : (List I)) : Option Bool :=
  optC (L_ref11_leqs_88_0_0 (a0, a1, 0)) none fun d4 ↦ Sum.elim (fun e5 ↦ some true) (fun e5 ↦ some e5) d4
theorem raw_ref11_leqs (a0 : (List I)) (a1 : (List I)) : evGX cx_ref11_leqs keeps 8 88 ash_ref11_leqs (.dat .bool) ((a0, a1, ()) : ((List I) × ((List I) × Unit))) = g_ref11_leqs a0 a1 := by kernel_rfl
noncomputable def G_ref11_leqs (x : ((List I) × ((List I) × Unit))) : Option Bool := g_ref11_leqs x.1 x.2.1
noncomputable def con_ref11_leqs : List AV → Prog AV := conP true ash_ref11_leqs (.dat .bool) G_ref11_leqs
theorem snd_ref11_leqs : SoundA Try.prog 88 con_ref11_leqs := conP_sound (cal_ref11_leqs 88) true (by rfl) (by rfl) (fun x r e => (evGX_eq _ _ _ _ _ _ _).trans ((raw_ref11_leqs x.1 x.2.1).trans e)) (.inl rfl)
end Go.Proofs.Ytbdcblpjemmipaa.Ex

namespace Go.Proofs.Ytbdcblpjemmipaa.Ex
set_option maxRecDepth 100000
set_option maxHeartbeats 2000000
set_option linter.unusedVariables false
set_option linter.unusedSimpArgs false
noncomputable def bd_ref11_leqs_88_0_0 (s1 : (List I)) (s0 : (List I)) (i : Nat)  (d : I) : Option (Unit ⊕ (Unit ⊕ Bool)) :=
  optC (G_ref11_row (s1, (i : Int), ())) (none) fun d6 ↦
   optC (G_ref2_Leq (d, d6, ())) (none) fun d7 ↦
   bif !d7 then
   some (Sum.inr (Sum.inr false))
 else some (Sum.inl ())
noncomputable def fn_ref11_leqs_88_0_0 (s1 : (List I)) (s0 : (List I))  : Option (Unit ⊕ Bool) :=
  some (Sum.inl PUnit.unit)
noncomputable abbrev rx_ref11_leqs_88_0_0 (s1 : (List I)) (s0 : (List I)) (i : Nat) (s : Unit) : ((List I) × (List I) × Int) := (s0, s1, (i : Int))
noncomputable def rv_ref11_leqs_88_0_0 (s1 : (List I)) (s0 : (List I)) (s : Unit) : Option (Unit ⊕ Bool) := rangeO (fun i s d => bd_ref11_leqs_88_0_0 s1 s0 i  d) (fun s => fn_ref11_leqs_88_0_0 s1 s0 ) 0 s0 s
theorem rg_ref11_leqs_88_0_0 (s1 : (List I)) (s0 : (List I)) (s : Unit) (hl : s0.length < 9223372036854775807) : L_ref11_leqs_88_0_0 (s0, s1, 0) = rv_ref11_leqs_88_0_0 s1 s0 s := by
  unfold L_ref11_leqs_88_0_0 rv_ref11_leqs_88_0_0
  refine iterO_range0 s0 (rx_ref11_leqs_88_0_0 s1 s0) _ _ ?_ ?_ s (by unfold FUEL; omega)
  · intro i s d hi hd
    have e1 : decide ((i : Int) < (s0.length : Int)) = true := decide_eq_true (by omega)
    have e2 : decide (0 ≤ (i : Int)) = true := decide_eq_true (by omega)
    have e3 : Int.toNat (i : Int) = i := Int.toNat_natCast i
    have e4 := wrap_next hi (Nat.le_of_lt hl)
    show st_ref11_leqs_88_0_0 (s0) (s1) ((i : Int)) = upd _ (bd_ref11_leqs_88_0_0 s1 s0 i  d)
    unfold st_ref11_leqs_88_0_0 bd_ref11_leqs_88_0_0
    simp only [e1, e2, e3, e4, hd, cond_true, cond_false, optC_some, upd_cond, upd_optC, upd_elim, upd_inl, upd_inr, upd_none]
  · intro s
    have e1 : decide ((s0.length : Int) < (s0.length : Int)) = false := decide_eq_false (by omega)
    show st_ref11_leqs_88_0_0 (s0) (s1) ((s0.length : Int)) = _
    unfold st_ref11_leqs_88_0_0 fn_ref11_leqs_88_0_0
    rw [e1]
    rfl
end Go.Proofs.Ytbdcblpjemmipaa.Ex

namespace Go.Proofs.Ytbdcblpjemmipaa.Ex
open Go.Proofs Go.Proofs.Ytbdcblpjemmipaa
set_option maxRecDepth 100000
set_option maxHeartbeats 2000000
set_option linter.unusedVariables false
set_option linter.unusedSimpArgs false
def ash_ref11_Leq : List Sh := [.dat tE, .dat tE]
noncomputable def sp_ref11_Leq : Nat → Option (List AV → Prog AV)
  | 88 => some (con_ref11_leqs)
  | _ => none
theorem hsp_ref11_Leq : ∀ g p, sp_ref11_Leq g = some p → SoundA Try.prog g p := by
  intro g p h
  unfold sp_ref11_Leq at h
  split at h
  · cases h; exact snd_ref11_leqs
  · cases h
noncomputable def cx_ref11_Leq : Ctx := { tab := tab, spec := sp_ref11_Leq, inl := inl, lps := fun _ _ => none, fuel := 40 }
theorem in_ref11_Leq : InlOk Try.prog cx_ref11_Leq := ⟨inl_ok, fun _ _ _ _ _ _ _ _ h => nomatch h⟩
theorem cal_ref11_Leq (g : Nat) : SoundA Try.prog g (evF cx_ref11_Leq keeps 8 g) := evF_sound (tabOk_of tab_ok) (cmpsOk_of tab_ok cmps_ok) mixed in_ref11_Leq hsp_ref11_Leq keeps 8 g
noncomputable def g_ref11_Leq (a0 : E) (a1 : E) : Option Bool :=
  bif !a0.1 then some true
 else
 bif a1.1 then
 optC (G_ref11_leqs (a0.2.1, a1.2.1, ())) none fun d3 ↦
 bif d3 then
 optC (G_ref11_leqs (a0.2.2.1, a1.2.2.1, ())) none fun d4 ↦
 bif d4 then
 optC (G_ref11_leqs (a0.2.2.2.1, a1.2.2.2.1, ())) none fun d5 ↦
 bif d5 then
 bif Go.IntKind.i64.wrap (↑(BitVec.ofInt Go.IntKind.i64.bits a1.2.2.2.2.1 &&& ~~~BitVec.ofInt Go.IntKind.i64.bits a0.2.2.2.2.1).toNat : Int) == 0 then
 some (Go.IntKind.i64.wrap (↑(BitVec.ofInt Go.IntKind.i64.bits a0.2.2.2.2.2 &&& ~~~BitVec.ofInt Go.IntKind.i64.bits a1.2.2.2.2.2).toNat : Int) == 0)
 else some false
 else some false
 else some false
 else some false
 else some false
theorem raw_ref11_Leq (a0 : E) (a1 : E) : evGX cx_ref11_Leq keeps 8 44 ash_ref11_Leq (.dat .bool) ((a0, a1, ()) : (E × (E × Unit))) = g_ref11_Leq a0 a1 := by kernel_rfl
noncomputable def G_ref11_Leq (x : (E × (E × Unit))) : Option Bool := g_ref11_Leq x.1 x.2.1
noncomputable def con_ref11_Leq : List AV → Prog AV := conP true ash_ref11_Leq (.dat .bool) G_ref11_Leq
theorem snd_ref11_Leq : SoundA Try.prog 44 con_ref11_Leq := conP_sound (cal_ref11_Leq 44) true (by rfl) (by rfl) (fun x r e => (evGX_eq _ _ _ _ _ _ _).trans ((raw_ref11_Leq x.1 x.2.1).trans e)) (.inl rfl)
end Go.Proofs.Ytbdcblpjemmipaa.Ex

namespace Go.Proofs.Ytbdcblpjemmipaa.Ex
open Go.Proofs
set_option maxRecDepth 100000
set_option maxHeartbeats 2000000
set_option linter.unusedVariables false
set_option linter.unusedSimpArgs false
theorem leq_refl (x : I) : leqB x x = true := by rw [leq_iff]; unfold sub; omega
theorem leq_emp {x y : I} (h : empB x = true) : leqB x y = true := by unfold leqB; rw [h]; rfl
theorem ne_leq {x y : I} (h : leqB x y = true) (hx : empB x = false) : sub x y ∧ empB y = false := by
  have := le_of_emp hx
  rw [leq_iff] at h
  unfold sub at *
  refine ⟨by omega, emp_no (by omega)⟩
theorem mspan_mono {x y z w : I} (h : leqB x z = true) (k : leqB y w = true) : leqB (mSpan x y) (mSpan z w) = true := by
  rw [leq_iff] at *
  unfold sub at *
  simp only [mSpan, iSpan, mx, mn, nn]
  (repeat' split) <;> simp only <;> omega
theorem rjoin_mono {x y z w : I} (h : leqB x z = true) (k : leqB y w = true) : leqB (rJoin x y) (rJoin z w) = true := by
  have e1 := h
  have e2 := k
  rw [leq_iff] at h k
  unfold rJoin
  cases a : empB x <;> cases b : empB y <;> cases c : empB z <;> cases d : empB w <;> simp only [Bool.false_eq_true, if_true, if_false] <;> rw [leq_iff] <;> unfold sub at * <;>
    simp only [empB, decide_eq_true_eq, decide_eq_false_iff_not] at a b c d <;> (try simp only [mx, mn, nn]) <;> first | omega | ((repeat' split) <;> omega)
theorem joinI_le {x y w : I} (h : leqB x w = true) (k : leqB y w = true) : leqB (iJoin x y) w = true := by
  rw [leq_iff] at h k
  unfold iJoin
  cases a : empB x <;> cases b : empB y <;> simp only [Bool.false_eq_true, if_true, if_false] <;> rw [leq_iff] <;> unfold sub at * <;>
    simp only [empB, decide_eq_true_eq, decide_eq_false_iff_not] at a b <;> (try simp only [mx, mn, nn]) <;> first | omega | ((repeat' split) <;> omega)
theorem join_up1 (x y : I) : leqB x (iJoin x y) = true := by
  unfold iJoin
  cases a : empB x <;> cases b : empB y <;> simp only [Bool.false_eq_true, if_true, if_false] <;> rw [leq_iff] <;> unfold sub <;>
    simp only [empB, decide_eq_true_eq, decide_eq_false_iff_not] at a b <;> (try simp only [mx, mn, nn]) <;> first | omega | ((repeat' split) <;> omega)
theorem join_up2 (x y : I) : leqB y (iJoin x y) = true := by
  unfold iJoin
  cases a : empB x <;> cases b : empB y <;> simp only [Bool.false_eq_true, if_true, if_false] <;> rw [leq_iff] <;> unfold sub <;>
    simp only [empB, decide_eq_true_eq, decide_eq_false_iff_not] at a b <;> (try simp only [mx, mn, nn]) <;> first | omega | ((repeat' split) <;> omega)
theorem seen_le {p : En → Bool} {w : I} : ∀ {l : List En} {v : I}, leqB v w = true → (∀ e ∈ l, p e = true → leqB e.2.2.2.2 w = true) → leqB (seenS p v l) w = true
  | [], v, hv, _ => hv
  | e :: r, v, hv, h => by
    unfold seenS
    rw [List.foldl_cons]
    refine seen_le (l := r) ?_ fun x hx => h x (List.mem_cons_of_mem _ hx)
    split
    · rename_i hp; exact joinI_le hv (h e (List.mem_cons_self ..) hp)
    · exact hv
theorem seen_up {p : En → Bool} : ∀ {l : List En} {v : I}, leqB v (seenS p v l) = true
  | [], v => leq_refl v
  | e :: r, v => by
    unfold seenS
    rw [List.foldl_cons]
    refine leq_trans ?_ (seen_up (l := r))
    split
    · exact join_up1 _ _
    · exact leq_refl v
theorem seen_ge {p : En → Bool} : ∀ {l : List En} {v : I} {e : En}, e ∈ l → p e = true → leqB e.2.2.2.2 (seenS p v l) = true
  | d :: r, v, e, he, hp => by
    unfold seenS
    rw [List.foldl_cons]
    rcases List.mem_cons.1 he with rfl | he
    · rw [if_pos hp]; exact leq_trans (join_up2 _ _) (seen_up (l := r))
    · exact seen_ge (l := r) he hp
def subB (a b : Int) : Prop := ∀ i : Nat, a.toNat.testBit i = true → b.toNat.testBit i = true
def keyEq (e d : En) : Prop := d.1 = e.1 ∧ d.2.1 = e.2.1 ∧ d.2.2.1 = e.2.2.1 ∧ d.2.2.2.1 = e.2.2.2.1
def leT (a c : List En) : Prop := ∀ e ∈ a, ∃ d ∈ c, keyEq e d ∧ leqB e.2.2.2.2 d.2.2.2.2 = true
theorem ap_mono {a h k : Int} (s : subB k h) (e : apI a h = true) : apI a k = true := by
  unfold apI at *
  rw [beq_iff_eq] at *
  refine Nat.eq_of_testBit_eq fun i => ?_
  have := congrArg (fun n => n.testBit i) e
  simp only [Nat.testBit_and, Nat.zero_testBit] at this ⊢
  cases ha : a.toNat.testBit i
  · rfl
  · rw [ha, Bool.true_and] at this
    cases hk : k.toNat.testBit i
    · rfl
    · rw [s i hk] at this; cases this
theorem sees_mono {t : Int} {ar : Bool} {g h k : Int} {e d : En} (q : keyEq e d) (s : subB k h) (p : seesB t ar g h e = true) : seesB t ar g k d = true := by
  unfold seesB at *
  obtain ⟨q1, q2, q3, q4⟩ := q
  rw [q1, q2, q3, q4]
  simp only [Bool.and_eq_true] at p ⊢
  exact ⟨p.1, p.2.1, p.2.2.1, ap_mono s p.2.2.2⟩
theorem seenV_mono {a c : List En} {t : Int} {ar : Bool} {g h k : Int} (q : leT a c) (s : subB k h) : leqB (seenV a t ar g h) (seenV c t ar g k) = true :=
  seen_le (leq_emp (by decide)) fun e he hp => by
    obtain ⟨d, hd, h1, h2⟩ := q e he
    exact leq_trans h2 (seen_ge hd (sees_mono h1 s hp))
theorem gainV_mono {a c : List En} {t : Int} {ar : Bool} {g h k m : Int} (q : leT a c) (s : subB k h) : leqB (gainV a t ar g h m) (gainV c t ar g k m) = true :=
  seen_le (leq_emp (by decide)) fun e he hp => by
    obtain ⟨d, hd, h1, h2⟩ := q e he
    simp only [Bool.and_eq_true] at hp
    refine leq_trans h2 (seen_ge hd ?_)
    simp only [Bool.and_eq_true]
    refine ⟨sees_mono h1 s hp.1, ?_⟩
    rw [h1.2.2.2]; exact hp.2
def leR (a b : List I) : Prop := a.length = b.length ∧ ∀ (i : Nat) (x y : I), a[i]? = some x → b[i]? = some y → leqB x y = true
theorem leR_set {a b : List I} {i : Nat} {v w : I} (h : leR a b) (k : leqB v w = true) : leR (a.set i v) (b.set i w) := by
  refine ⟨by simp [h.1], fun j x y hx hy => ?_⟩
  by_cases e : i = j
  · subst e
    have h1 : i < a.length := by have := (List.getElem?_eq_some_iff.1 hx).1; simpa using this
    rw [List.getElem?_set_self h1] at hx
    rw [List.getElem?_set_self (by rw [← h.1]; exact h1)] at hy
    cases hx; cases hy; exact k
  · rw [List.getElem?_set_ne e] at hx hy
    exact h.2 j x y hx hy
theorem leR_refl (a : List I) : leR a a := ⟨rfl, fun i x y hx hy => by rw [hx] at hy; cases hy; exact leq_refl x⟩
theorem gmap_mono {a c : List En} {t : Int} {ar : Bool} {h k m : Int} {x y : List I} (q : leT a c) (s : subB k h) (r : leR x y) : leR (gmap a t ar h m x) (gmap c t ar k m y) := by
  refine ⟨by simp [gmap, r.1], fun i u v hu hv => ?_⟩
  unfold gmap at hu hv
  rw [List.getElem?_mapIdx] at hu hv
  cases e1 : x[i]? with
  | none => rw [e1] at hu; cases hu
  | some u1 =>
    cases e2 : y[i]? with
    | none => rw [e2] at hv; cases hv
    | some v1 =>
      rw [e1] at hu; rw [e2] at hv
      cases hu; cases hv
      exact rjoin_mono (r.2 i u1 v1 e1 e2) (gainV_mono q s)
structure leE (x y : E) : Prop where
  on : y.1 = true
  v : leR x.2.1 y.2.1
  g : leR x.2.2.1 y.2.2.1
  a : leR x.2.2.2.1 y.2.2.2.1
  must : subB y.2.2.2.2.1 x.2.2.2.2.1
  may : subB x.2.2.2.2.2 y.2.2.2.2.2
def leO (x y : E) : Prop := x.1 = true → leE x y
theorem leO_off (y : E) : leO offE y := fun h => nomatch h
theorem leE_set {x y : E} {T : Int} {v w : I} (h : leE x y) (k : leqB v w = true) : leE (setE x T v) (setE y T w) := ⟨h.on, leR_set h.v k, h.g, h.a, h.must, h.may⟩
end Go.Proofs.Ytbdcblpjemmipaa.Ex

namespace Go.Proofs.Ytbdcblpjemmipaa.Ex
open Go.Proofs
set_option maxRecDepth 100000
set_option maxHeartbeats 2000000
set_option linter.unusedVariables false
set_option linter.unusedSimpArgs false
theorem ref_mono (r : Int) {x y z w : I} (hx : empB x = false) (hy : empB y = false) (h : leqB x z = true) (k : leqB y w = true) :
    leqB (refI r x y).1 (refI r z w).1 = true ∧ leqB (refI r x y).2 (refI r z w).2 = true := by
  obtain ⟨h1, hz⟩ := ne_leq h hx
  obtain ⟨k1, hw⟩ := ne_leq k hy
  obtain ⟨a, b⟩ := x
  obtain ⟨c, d⟩ := y
  obtain ⟨a', b'⟩ := z
  obtain ⟨c', d'⟩ := w
  have l1 : a ≤ b := le_of_emp hx
  have l2 : c ≤ d := le_of_emp hy
  have l3 : a' ≤ b' := le_of_emp hz
  have l4 : c' ≤ d' := le_of_emp hw
  unfold sub at h1 k1
  simp only at h1 k1
  have nnl : ∀ u : I × I, leqB (nn, nn).1 u.1 = true ∧ leqB (nn, nn).2 u.2 = true := fun u => ⟨leq_emp (by decide), leq_emp (by decide)⟩
  have fin : ∀ {p q u v s t m n : Int}, (p > q ∨ (s ≤ p ∧ q ≤ t)) → (u > v ∨ (m ≤ u ∧ v ≤ n)) → leqB ((p, q), (u, v)).1 ((s, t), (m, n)).1 = true ∧ leqB ((p, q), (u, v)).2 ((s, t), (m, n)).2 = true := fun e1 e2 => by
    rw [leq_iff, leq_iff]; exact ⟨e1, e2⟩
  by_cases r1 : r = 1
  · subst r1
    rw [ref1 l1 l2, ref1 l3 l4]
    by_cases q : a < d
    · rw [if_pos q, if_pos (by omega)]
      refine fin ?_ ?_ <;> simp only [mx, mn] <;> (repeat' split) <;> omega
    · rw [if_neg q]; exact nnl _
  by_cases r2 : r = 2
  · subst r2
    rw [ref2 l1 l2, ref2 l3 l4]
    by_cases q : a ≤ d
    · rw [if_pos q, if_pos (by omega)]
      refine fin ?_ ?_ <;> simp only [mx, mn] <;> (repeat' split) <;> omega
    · rw [if_neg q]; exact nnl _
  by_cases r5 : r = 5
  · subst r5
    rw [ref5 l1 l2, ref5 l3 l4]
    by_cases q : c ≤ b
    · rw [if_pos q, if_pos (by omega)]
      refine fin ?_ ?_ <;> simp only [mx, mn] <;> (repeat' split) <;> omega
    · rw [if_neg q]; exact nnl _
  by_cases r6 : r = 6
  · subst r6
    rw [ref6 l1 l2, ref6 l3 l4]
    by_cases q : c < b
    · rw [if_pos q, if_pos (by omega)]
      refine fin ?_ ?_ <;> simp only [mx, mn] <;> (repeat' split) <;> omega
    · rw [if_neg q]; exact nnl _
  by_cases r3 : r = 3
  · subst r3
    rw [ref3 l1 l2, ref3 l3 l4]
    by_cases q : a ≤ d ∧ c ≤ b
    · rw [if_pos q, if_pos (by omega)]
      refine fin ?_ ?_ <;> simp only [mx, mn] <;> (repeat' split) <;> omega
    · rw [if_neg q]; exact nnl _
  by_cases r4 : r = 4
  · subst r4
    rw [ref4 l1 l2, ref4 l3 l4]
    by_cases q : a = b ∧ c = d ∧ a = c
    · rw [if_pos q]; exact nnl _
    · rw [if_neg q, if_neg (show ¬ (a' = b' ∧ c' = d' ∧ a' = c') by omega)]
      refine fin ?_ ?_ <;> (repeat' split) <;> omega
  · have : refI r (a, b) (c, d) = (nn, nn) := by unfold refI; simp only [r1, r2, r3, r4, r5, r6, if_false]
    rw [this]; exact nnl _
def okB (n : Int) : Prop := 0 ≤ n ∧ n < 2147483648
theorem bitV_ok (m : Int) : 0 ≤ bitV m ∧ bitV m < 2147483648 := by
  obtain ⟨k, h1, h2, _⟩ := bitV_nat m
  omega
theorem wo_bits (s m : Int) (hs : okB s) : okB (woI s m) ∧ ∀ i, (woI s m).toNat.testBit i = (s.toNat.testBit i && !(bitV m).toNat.testBit i) := by
  unfold okB at *
  have hb := bitV_ok m
  obtain ⟨r, h1, h2, h3⟩ := andnot64 (a := s.toNat) (b := (bitV m).toNat) (by omega) (by omega)
  have e1 : ((s.toNat : Nat) : Int) = s := by omega
  have e2 : (((bitV m).toNat : Nat) : Int) = bitV m := by omega
  rw [e1, e2] at h1
  unfold woI
  rw [h1]
  refine ⟨by omega, fun i => ?_⟩
  rw [Int.toNat_natCast]
  exact h3 i
theorem wi_bits (s m : Int) (hs : okB s) : okB (wiI s m) ∧ ∀ i, (wiI s m).toNat.testBit i = (s.toNat.testBit i || (bitV m).toNat.testBit i) := by
  unfold okB at *
  have hb := bitV_ok m
  unfold wiI
  have : s.toNat ||| (bitV m).toNat < 2 ^ 31 := Nat.or_lt_two_pow (by omega) (by omega)
  refine ⟨by omega, fun i => ?_⟩
  rw [Int.toNat_natCast, Nat.testBit_or]
theorem wo_mono {a b m : Int} (ha : okB a) (hb : okB b) (s : subB a b) : subB (woI a m) (woI b m) := fun i h => by
  rw [(wo_bits a m ha).2] at h
  rw [(wo_bits b m hb).2]
  simp only [Bool.and_eq_true] at h ⊢
  exact ⟨s i h.1, h.2⟩
theorem wi_mono {a b m : Int} (ha : okB a) (hb : okB b) (s : subB a b) : subB (wiI a m) (wiI b m) := fun i h => by
  rw [(wi_bits a m ha).2] at h
  rw [(wi_bits b m hb).2]
  simp only [Bool.or_eq_true] at h ⊢
  exact h.imp (s i) id
theorem tb_mono {a b m : Int} (s : subB a b) (h : tb a m = true) : tb b m = true := by
  unfold tb at *
  simp only [Bool.and_eq_true] at h ⊢
  exact ⟨h.1, s _ h.2⟩
theorem sub_asked {a b : Int} (ha : okB a) (hb : okB b) (s : subB a b) : (IntKind.i64.wrap ((BitVec.ofInt IntKind.i64.bits a &&& ~~~BitVec.ofInt IntKind.i64.bits b).toNat : Int) == 0) = true := by
  unfold okB at *
  obtain ⟨r, h1, h2, h3⟩ := andnot64 (a := a.toNat) (b := b.toNat) (by omega) (by omega)
  rw [show ((a.toNat : Nat) : Int) = a by omega, show ((b.toNat : Nat) : Int) = b by omega] at h1
  rw [h1]
  have : r = 0 := Nat.eq_of_testBit_eq fun i => by
    rw [h3, Nat.zero_testBit]
    cases q : a.toNat.testBit i
    · rfl
    · rw [s i q]; rfl
  subst this
  rfl
theorem leqs_ok {a b : List I} (h : leR a b) (hl : a.length < 9223372036854775807) : g_ref11_leqs a b = some true := by
  unfold g_ref11_leqs
  rw [rg_ref11_leqs_88_0_0 b a () hl]
  unfold rv_ref11_leqs_88_0_0
  rw [rangeO_id a 0 fun j d hd => ?_]
  · rfl
  · have hj : j < b.length := by rw [← h.1]; exact (List.getElem?_eq_some_iff.1 hd).1
    obtain ⟨y, hy⟩ : ∃ y, b[j]? = some y := ⟨b[j], List.getElem?_eq_getElem hj⟩
    unfold bd_ref11_leqs_88_0_0 G_ref11_row G_ref2_Leq g_ref11_row
    rw [Nat.zero_add]
    simp only
    rw [show decide ((j : Int) < (b.length : Int)) = true from decide_eq_true (by omega), show decide (0 ≤ (j : Int)) = true from decide_eq_true (by omega), Int.toNat_natCast, hy]
    simp only [cond_true, optC_some, n_ref2_Leq, h.2 j d y hd hy, Bool.not_true, cond_false]
theorem n_ref11_Leq {x y : E} (h : leO x y) (hx : smallE x) (h1 : okB x.2.2.2.2.1) (h2 : okB x.2.2.2.2.2) (h3 : okB y.2.2.2.2.1) (h4 : okB y.2.2.2.2.2) : g_ref11_Leq x y = some true := by
  unfold g_ref11_Leq
  cases hx1 : x.1
  · rfl
  have k := h hx1
  simp only [k.on, Bool.not_true, cond_true, cond_false, G_ref11_leqs, leqs_ok k.v hx.1, leqs_ok k.g hx.2.1, leqs_ok k.a hx.2.2, optC_some, sub_asked h3 h1 k.must, sub_asked h2 h4 k.may]
end Go.Proofs.Ytbdcblpjemmipaa.Ex

namespace Go.Proofs.Ytbdcblpjemmipaa.Ex
open Go.Proofs Go.Proofs.Ytbdcblpjemmipaa
set_option maxRecDepth 100000
set_option maxHeartbeats 2000000
set_option linter.unusedVariables false
set_option linter.unusedSimpArgs false
abbrev ty_159_0 : Type := (((List En) × (Unit × (Int × Unit))) × ((Int × (Bool × (Int × (Int × (Int × (Int × Unit)))))) × Unit))
abbrev fn_159_0 := (fun (x : ((List En) × Int × Int × Bool × Int × Int × Int × Int)) => (((x.1, (), x.2.1, ()), ((x.2.2.1, x.2.2.2.1, x.2.2.2.2.1, x.2.2.2.2.2.1, x.2.2.2.2.2.2.1, x.2.2.2.2.2.2.2, ()), ())) : ty_159_0))
abbrev fn_159_1 := (fun (d : ty_159_0) => ((d.1.1, d.1.2.2.1, d.2.1.1, d.2.1.2.1, d.2.1.2.2.1, d.2.1.2.2.2.1, d.2.1.2.2.2.2.1, d.2.1.2.2.2.2.2.1) : ((List En) × Int × Int × Bool × Int × Int × Int × Int)))
def ash_ref12_place : List Sh := [.dat (.sl tEn), .dat tEn]
def kp_ref12_place_64_0 : Nat → List Nat := fun c => bif c.beq 0 then [0, 3, 6] else [0, 3, 6]
noncomputable def sp_ref12_place : Nat → Option (List AV → Prog AV)
  | 56 => some (con_ref12_order)
  | _ => none
theorem hsp_ref12_place : ∀ g p, sp_ref12_place g = some p → SoundA Try.prog g p := by
  intro g p h
  unfold sp_ref12_place at h
  split at h
  · cases h; exact snd_ref12_order
  · cases h
noncomputable def cx_ref12_place0 : Ctx := { tab := tab, spec := sp_ref12_place, inl := inl, lps := fun _ _ => none, fuel := 40 }
theorem in_ref12_place0 : InlOk Try.prog cx_ref12_place0 := ⟨inl_ok, fun _ _ _ _ _ _ _ _ h => nomatch h⟩
theorem cal_ref12_place0 (g : Nat) : SoundA Try.prog g (evF cx_ref12_place0 keeps 8 g) := evF_sound (tabOk_of tab_ok) (cmpsOk_of tab_ok cmps_ok) mixed in_ref12_place0 hsp_ref12_place keeps 8 g
noncomputable def F_ref12_place_64_0 (base : Nat) : Tm → Prog (Nat × Tm) := evC cx_ref12_place0 (evF cx_ref12_place0 keeps 8) ⟨64, 36, keeps 64, base⟩ 0 (bodyX 64 0)
def s_ref12_place_64_0_0 : StS := ⟨[(0, .sl tEn), (3, .ptr 0 0), (6, .int .i64)], [(0, .box [.int .i64, .bool, .int .i64, .int .i64, .int .i64, .int .i64])], 1⟩
def x_ref12_place_64_0_0_0 : StS := ⟨[(0, .sl tEn), (3, .ptr 0 0), (6, .int .i64)], [(0, .box [.int .i64, .bool, .int .i64, .int .i64, .int .i64, .int .i64])], 1⟩
noncomputable def st_ref12_place_64_0_0 (s0 : (List En)) (s6 : Int) (b0 : Int) (b0_1 : Bool) (b0_2 : Int) (b0_3 : Int) (b0_4 : Int) (b0_5 : Int) : Option (((List En) × Int × Int × Bool × Int × Int × Int × Int) ⊕ ((List En) × Int × Int × Bool × Int × Int × Int × Int)) :=
  bif decide (s6 < (↑s0.length : Int)) then
 bif decide (0 ≤ s6) then
 optC s0[s6.toNat]? none fun d10 ↦
 optC (G_ref12_order (d10, (b0, b0_1, b0_2, b0_3, b0_4, b0_5), ())) none fun d11 ↦
 bif decide (d11 < 0) then some (Sum.inl (s0, Go.IntKind.i64.wrap (s6 + 1), b0, b0_1, b0_2, b0_3, b0_4, b0_5))
 else some (Sum.inr (s0, s6, b0, b0_1, b0_2, b0_3, b0_4, b0_5))
 else none
 else some (Sum.inr (s0, s6, b0, b0_1, b0_2, b0_3, b0_4, b0_5))
theorem rn_ref12_place_64_0_0 (s0 : (List En)) (s6 : Int) (b0 : Int) (b0_1 : Bool) (b0_2 : Int) (b0_3 : Int) (b0_4 : Int) (b0_5 : Int) : rdX cx_ref12_place0 keeps 8 ⟨64, 36, keeps 64, 0⟩ 0 (bodyX 64 0) 0 kp_ref12_place_64_0 (sT s_ref12_place_64_0_0 ((s0, (), s6, ()), ((b0, b0_1, b0_2, b0_3, b0_4, b0_5, ()), ()))) (sH s_ref12_place_64_0_0 ((s0, (), s6, ()), ((b0, b0_1, b0_2, b0_3, b0_4, b0_5, ()), ()))) (rdO (fun T h => (rdS s_ref12_place_64_0_0 T h).map fn_159_1) (getE 2 x_ref12_place_64_0_0_0 fn_159_1)) = st_ref12_place_64_0_0 s0 s6 b0 b0_1 b0_2 b0_3 b0_4 b0_5 := by kernel_rfl
noncomputable def L_ref12_place_64_0_0 (x : ((List En) × Int × Int × Bool × Int × Int × Int × Int)) : Option ((List En) × Int × Int × Bool × Int × Int × Int × Int) := iterO (fun x => st_ref12_place_64_0_0 x.1 x.2.1 x.2.2.1 x.2.2.2.1 x.2.2.2.2.1 x.2.2.2.2.2.1 x.2.2.2.2.2.2.1 x.2.2.2.2.2.2.2) FUEL x
noncomputable def q_ref12_place_64_0 : Nat → Tm → Prog (Nat × Tm) := (varP 0 (fun T h => (rdS s_ref12_place_64_0_0 T h).map fn_159_1) L_ref12_place_64_0_0 (altE 2 x_ref12_place_64_0_0_0 fn_159_0) (fun _ _ => .fail))
theorem ok_ref12_place_64_0 : VarOk kp_ref12_place_64_0 F_ref12_place_64_0 q_ref12_place_64_0 := (varX_ok (s := s_ref12_place_64_0_0) (un := fn_159_0) (by rfl) (fun _ => rfl) (getE_ok (s := x_ref12_place_64_0_0_0) (un := fn_159_0) (by rfl) (fun _ => rfl)) (step := fun x => st_ref12_place_64_0_0 x.1 x.2.1 x.2.2.1 x.2.2.2.1 x.2.2.2.2.1 x.2.2.2.2.2.1 x.2.2.2.2.2.2.1 x.2.2.2.2.2.2.2) (fun x => rn_ref12_place_64_0_0 x.1 x.2.1 x.2.2.1 x.2.2.2.1 x.2.2.2.2.1 x.2.2.2.2.2.1 x.2.2.2.2.2.2.1 x.2.2.2.2.2.2.2) (fun _ _ e => ⟨_, e⟩) (altE_ok 2 x_ref12_place_64_0_0_0 fn_159_0) (VarOk.fail _ _))
noncomputable def lpI_ref12_place_64_0 (base : Nat) (T : Tm) : Prog (Nat × Tm) := .norm base (kp_ref12_place_64_0 0) T (q_ref12_place_64_0 base)
theorem sndI_ref12_place_64_0 : SoundC Try.prog 36 (.loop (bodyX 64 0)) lpI_ref12_place_64_0 := loopK_sound (cx := cx_ref12_place0) (cal := evF cx_ref12_place0 keeps 8) (kp := keeps 64) (tabOk_of tab_ok) (cmpsOk_of tab_ok cmps_ok) cal_ref12_place0 mixed (hl_of (g := 64) (b := 0) in_ref12_place0 (by kernel_rfl) (by kernel_rfl)) ok_ref12_place_64_0
noncomputable def lpL_ref12_place_64_0 : Nat → Tm → Prog (Nat × Tm) := lpI_ref12_place_64_0
theorem sndL_ref12_place_64_0 : SoundC Try.prog 36 (.loop (bodyX 64 0)) lpL_ref12_place_64_0 := sndI_ref12_place_64_0
noncomputable def lp_ref12_place : Nat → Nat → Option (Nat → Tm → Prog (Nat × Tm))
  | 64, 0 => some lpL_ref12_place_64_0
  | _, _ => none
noncomputable def cx_ref12_place : Ctx := { tab := tab, spec := sp_ref12_place, inl := inl, lps := lp_ref12_place, fuel := 40 }
theorem in_ref12_place : InlOk Try.prog cx_ref12_place := ⟨inl_ok, fun g fn c hg hb q hq p hp => by
  change lp_ref12_place g q.1 = some p at hp
  change inl g = some fn at hg
  generalize hq1 : q.1 = b at hp
  unfold lp_ref12_place at hp
  split at hp
  · cases hp; exact lps_case (inl := inl) hg hb hq hq1 (by kernel_rfl) (by kernel_rfl) sndL_ref12_place_64_0
  · cases hp⟩
theorem cal_ref12_place (g : Nat) : SoundA Try.prog g (evF cx_ref12_place keeps 8 g) := evF_sound (tabOk_of tab_ok) (cmpsOk_of tab_ok cmps_ok) mixed in_ref12_place hsp_ref12_place keeps 8 g
noncomputable def g_ref12_place (a0 : (List En)) (a1 : En) : Option (Int × (Bool × Unit)) :=
  optC (L_ref12_place_64_0_0 (a0, 0, a1)) none fun d4 ↦
 bif decide (d4.2.1 < (↑d4.1.length : Int)) then
 bif decide (0 ≤ d4.2.1) then
 optC d4.1[d4.2.1.toNat]? none fun d5 ↦ optC (G_ref12_order (d5, d4.2.2, ())) none fun d6 ↦ some (d4.2.1, d6 == 0, PUnit.unit)
 else none
 else some (d4.2.1, false, PUnit.unit)
theorem raw_ref12_place (a0 : (List En)) (a1 : En) : evGX cx_ref12_place keeps 8 64 ash_ref12_place (.tup [.dat (.int .i64), .dat .bool]) ((a0, a1, ()) : ((List En) × (En × Unit))) = g_ref12_place a0 a1 := by kernel_rfl
noncomputable def G_ref12_place (x : ((List En) × (En × Unit))) : Option (Int × (Bool × Unit)) := g_ref12_place x.1 x.2.1
noncomputable def con_ref12_place : List AV → Prog AV := conP false ash_ref12_place (.tup [.dat (.int .i64), .dat .bool]) G_ref12_place
theorem snd_ref12_place : SoundA Try.prog 64 con_ref12_place := conP_sound (cal_ref12_place 64) false (by rfl) (by rfl) (fun x r e => (evGX_eq _ _ _ _ _ _ _).trans ((raw_ref12_place x.1 x.2.1).trans e)) (.inr fun _ => rfl)
end Go.Proofs.Ytbdcblpjemmipaa.Ex

namespace Go.Proofs.Ytbdcblpjemmipaa.Ex
open Go.Proofs Go.Proofs.Ytbdcblpjemmipaa
set_option maxRecDepth 100000
set_option maxHeartbeats 2000000
set_option linter.unusedVariables false
set_option linter.unusedSimpArgs false
abbrev fn_160_0 := (fun (d : ((Unit × ((List En) × (Int × Unit))) × ((List En) × Unit))) => ((d.1.2.1, d.1.2.2.1, d.2.1) : ((List En) × Int × (List En))))
abbrev fn_160_1 := (fun (x : (List En)) => ((((), ()), (x, ())) : ((Unit × Unit) × ((List En) × Unit))))
def ash_ref12_Add : List Sh := [.dat (.sl tEn), .dat (.sl tEn)]
def kp_ref12_Add_26_0 : Nat → List Nat := fun c => bif c.beq 0 then [0, 1, 5] else [0]
noncomputable def sp_ref12_Add : Nat → Option (List AV → Prog AV)
  | 49 => some (con_ref2_Empty)
  | 64 => some (con_ref12_place)
  | 15 => some (con_ref2_Join)
  | _ => none
theorem hsp_ref12_Add : ∀ g p, sp_ref12_Add g = some p → SoundA Try.prog g p := by
  intro g p h
  unfold sp_ref12_Add at h
  split at h
  · cases h; exact snd_ref2_Empty
  · cases h; exact snd_ref12_place
  · cases h; exact snd_ref2_Join
  · cases h
noncomputable def cx_ref12_Add0 : Ctx := { tab := tab, spec := sp_ref12_Add, inl := inl, lps := fun _ _ => none, fuel := 40 }
theorem in_ref12_Add0 : InlOk Try.prog cx_ref12_Add0 := ⟨inl_ok, fun _ _ _ _ _ _ _ _ h => nomatch h⟩
theorem cal_ref12_Add0 (g : Nat) : SoundA Try.prog g (evF cx_ref12_Add0 keeps 8 g) := evF_sound (tabOk_of tab_ok) (cmpsOk_of tab_ok cmps_ok) mixed in_ref12_Add0 hsp_ref12_Add keeps 8 g
noncomputable def F_ref12_Add_26_0 (base : Nat) : Tm → Prog (Nat × Tm) := evC cx_ref12_Add0 (evF cx_ref12_Add0 keeps 8) ⟨26, 66, keeps 26, base⟩ 0 (bodyX 26 0)
def s_ref12_Add_26_0_0 : StS := ⟨[(0, .row 0), (1, .sl tEn), (5, .int .i64)], [(0, .row tEn)], 1⟩
def x_ref12_Add_26_0_0_0 : StS := ⟨[(0, .row 0)], [(0, .row tEn)], 1⟩
noncomputable def st_ref12_Add_26_0_0 (s1 : (List En)) (s5 : Int) (b0 : (List En)) : Option (((List En) × Int × (List En)) ⊕ (List En)) :=
  bif decide (s5 < (↑s1.length : Int)) then
 bif decide (0 ≤ s5) then
 optC s1[s5.toNat]? none fun d5 ↦
 bif decide (d5.2.2.2.2.1 > d5.2.2.2.2.2) then some (Sum.inl (s1, Go.IntKind.i64.wrap (s5 + 1), b0))
 else
 bif decide (0 ≤ s5) then
 optC s1[s5.toNat]? none fun d6 ↦
 optC (G_ref12_place (b0, d6, ())) none fun d7 ↦
 bif d7.2.1 then
 bif decide (0 ≤ d7.1) then
 optC b0[Int.toNat d7.1]? none fun d8 ↦
 optC b0[Int.toNat d7.1]? none fun d9 ↦
 bif decide (0 ≤ s5) then
 optC s1[s5.toNat]? none fun d10 ↦
 optC (G_ref2_Join (d9.2.2.2.2, d10.2.2.2.2, ())) none fun d11 ↦
 bif decide (0 ≤ d7.1) then
 optC b0[Int.toNat d7.1]? none fun d12 ↦
 optC b0[Int.toNat d7.1]? none fun d13 ↦
 some (Sum.inl (s1, Go.IntKind.i64.wrap (s5 + 1), b0.set (Int.toNat d7.1) (d13.1, d13.2.1, d13.2.2.1, d13.2.2.2.1, d11)))
 else none
 else none
 else none
 else
 bif decide ((0 : Int) ≤ 0 ∧ 0 ≤ d7.1 ∧ d7.1 ≤ (↑b0.length : Int)) then
 bif decide (((List.length (α := I) []) + (List.drop (Int.toNat (0 : Int)) (List.take (Int.toNat d7.1) b0)).length + 1) * 48 ≤ lim) then
 bif decide (0 ≤ s5) then
 optC s1[s5.toNat]? none fun d8 ↦
 bif decide ((([] ++ List.drop (Int.toNat (0 : Int)) (List.take (Int.toNat d7.1) b0)).length + [d8].length + 1) * 48 ≤ lim) then
 bif decide (0 ≤ d7.1 ∧ d7.1 ≤ (↑b0.length : Int) ∧ (↑b0.length : Int) ≤ (↑b0.length : Int)) then
 bif
 decide
 ((([] ++ List.drop (Int.toNat (0 : Int)) (List.take (Int.toNat d7.1) b0) ++ [d8]).length + (List.drop (Int.toNat d7.1) (List.take (↑b0.length : Int).toNat b0)).length +
 1) *
 48 ≤
 lim) then
 some
 (Sum.inl
 (s1, Go.IntKind.i64.wrap (s5 + 1),
 [] ++ List.drop (Int.toNat (0 : Int)) (List.take (Int.toNat d7.1) b0) ++ [d8] ++ List.drop (Int.toNat d7.1) (List.take (↑b0.length : Int).toNat b0)))
 else none
 else none
 else none
 else none
 else none
 else none
 else none
 else none
 else some (Sum.inr b0)
theorem rn_ref12_Add_26_0_0 (s1 : (List En)) (s5 : Int) (b0 : (List En)) : rdX cx_ref12_Add0 keeps 8 ⟨26, 66, keeps 26, 0⟩ 0 (bodyX 26 0) 0 kp_ref12_Add_26_0 (sT s_ref12_Add_26_0_0 (((), s1, s5, ()), (b0, ()))) (sH s_ref12_Add_26_0_0 (((), s1, s5, ()), (b0, ()))) (rdO (fun T h => (rdS s_ref12_Add_26_0_0 T h).map fn_160_0) (getE 2 x_ref12_Add_26_0_0_0 (fun (d : ((Unit × Unit) × ((List En) × Unit))) => ((d.2.1) : (List En))))) = st_ref12_Add_26_0_0 s1 s5 b0 := by kernel_rfl
noncomputable def L_ref12_Add_26_0_0 (x : ((List En) × Int × (List En))) : Option (List En) := iterO (fun x => st_ref12_Add_26_0_0 x.1 x.2.1 x.2.2) FUEL x
noncomputable def q_ref12_Add_26_0 : Nat → Tm → Prog (Nat × Tm) := (varP 0 (fun T h => (rdS s_ref12_Add_26_0_0 T h).map fn_160_0) L_ref12_Add_26_0_0 (altE 2 x_ref12_Add_26_0_0_0 fn_160_1) (fun _ _ => .fail))
theorem ok_ref12_Add_26_0 : VarOk kp_ref12_Add_26_0 F_ref12_Add_26_0 q_ref12_Add_26_0 := (varX_ok (s := s_ref12_Add_26_0_0) (un := (fun (x : ((List En) × Int × (List En))) => ((((), x.1, x.2.1, ()), (x.2.2, ())) : ((Unit × ((List En) × (Int × Unit))) × ((List En) × Unit))))) (by rfl) (fun _ => rfl) (getE_ok (s := x_ref12_Add_26_0_0_0) (un := fn_160_1) (by rfl) (fun _ => rfl)) (step := fun x => st_ref12_Add_26_0_0 x.1 x.2.1 x.2.2) (fun x => rn_ref12_Add_26_0_0 x.1 x.2.1 x.2.2) (fun _ _ e => ⟨_, e⟩) (altE_ok 2 x_ref12_Add_26_0_0_0 fn_160_1) (VarOk.fail _ _))
noncomputable def lpI_ref12_Add_26_0 (base : Nat) (T : Tm) : Prog (Nat × Tm) := .norm base (kp_ref12_Add_26_0 0) T (q_ref12_Add_26_0 base)
theorem sndI_ref12_Add_26_0 : SoundC Try.prog 66 (.loop (bodyX 26 0)) lpI_ref12_Add_26_0 := loopK_sound (cx := cx_ref12_Add0) (cal := evF cx_ref12_Add0 keeps 8) (kp := keeps 26) (tabOk_of tab_ok) (cmpsOk_of tab_ok cmps_ok) cal_ref12_Add0 mixed (hl_of (g := 26) (b := 0) in_ref12_Add0 (by kernel_rfl) (by kernel_rfl)) ok_ref12_Add_26_0
noncomputable def lpL_ref12_Add_26_0 : Nat → Tm → Prog (Nat × Tm) := lpI_ref12_Add_26_0
theorem sndL_ref12_Add_26_0 : SoundC Try.prog 66 (.loop (bodyX 26 0)) lpL_ref12_Add_26_0 := sndI_ref12_Add_26_0
noncomputable def lp_ref12_Add : Nat → Nat → Option (Nat → Tm → Prog (Nat × Tm))
  | 26, 0 => some lpL_ref12_Add_26_0
  | _, _ => none
noncomputable def cx_ref12_Add : Ctx := { tab := tab, spec := sp_ref12_Add, inl := inl, lps := lp_ref12_Add, fuel := 40 }
theorem in_ref12_Add : InlOk Try.prog cx_ref12_Add := ⟨inl_ok, fun g fn c hg hb q hq p hp => by
  change lp_ref12_Add g q.1 = some p at hp
  change inl g = some fn at hg
  generalize hq1 : q.1 = b at hp
  unfold lp_ref12_Add at hp
  split at hp
  · cases hp; exact lps_case (inl := inl) hg hb hq hq1 (by kernel_rfl) (by kernel_rfl) sndL_ref12_Add_26_0
  · cases hp⟩
theorem cal_ref12_Add (g : Nat) : SoundA Try.prog g (evF cx_ref12_Add keeps 8 g) := evF_sound (tabOk_of tab_ok) (cmpsOk_of tab_ok cmps_ok) mixed in_ref12_Add hsp_ref12_Add keeps 8 g
noncomputable def g_ref12_Add (a0 : (List En)) (a1 : (List En)) : Option (List En) :=
  bif decide (((List.length (α := I) []) + a0.length + 1) * 48 ≤ lim) then optC (L_ref12_Add_26_0_0 (a1, 0, [] ++ a0)) none fun d4 ↦ some d4 else none
theorem raw_ref12_Add (a0 : (List En)) (a1 : (List En)) : evGX cx_ref12_Add keeps 8 26 ash_ref12_Add (.dat (.sl tEn)) ((a0, a1, ()) : ((List En) × ((List En) × Unit))) = g_ref12_Add a0 a1 := by kernel_rfl
noncomputable def G_ref12_Add (x : ((List En) × ((List En) × Unit))) : Option (List En) := g_ref12_Add x.1 x.2.1
noncomputable def con_ref12_Add : List AV → Prog AV := conP true ash_ref12_Add (.dat (.sl tEn)) G_ref12_Add
theorem snd_ref12_Add : SoundA Try.prog 26 con_ref12_Add := conP_sound (cal_ref12_Add 26) true (by rfl) (by rfl) (fun x r e => (evGX_eq _ _ _ _ _ _ _).trans ((raw_ref12_Add x.1 x.2.1).trans e)) (.inl rfl)
end Go.Proofs.Ytbdcblpjemmipaa.Ex

namespace Go.Proofs.Ytbdcblpjemmipaa.Ex
set_option maxRecDepth 100000
set_option maxHeartbeats 2000000
set_option linter.unusedVariables false
set_option linter.unusedSimpArgs false
noncomputable def bd_ref12_Add_26_0_0  (s1 : (List En)) (i : Nat) (b0 : (List En)) (d : En) : Option ((List En) ⊕ (List En)) :=
  bif decide (d.2.2.2.2.1 > d.2.2.2.2.2) then
   some (Sum.inl (b0))
 else optC (G_ref12_place (b0, d, ())) (none) fun d7 ↦
   bif d7.2.1 then
   bif decide (0 ≤ d7.1) then
   optC b0[Int.toNat d7.1]? (none) fun d8 ↦
   optC b0[Int.toNat d7.1]? (none) fun d9 ↦
   optC (G_ref2_Join (d9.2.2.2.2, d.2.2.2.2, ())) (none) fun d11 ↦
   bif decide (0 ≤ d7.1) then
   optC b0[Int.toNat d7.1]? (none) fun d12 ↦
   optC b0[Int.toNat d7.1]? (none) fun d13 ↦
   some (Sum.inl (b0.set (Int.toNat d7.1) (d13.1, d13.2.1, d13.2.2.1, d13.2.2.2.1, d11)))
 else none
 else none
 else bif decide ((0 : Int) ≤ 0 ∧ 0 ≤ d7.1 ∧ d7.1 ≤ (↑b0.length : Int)) then
   bif decide (((List.length (α := I) []) + (List.drop (Int.toNat (0 : Int)) (List.take (Int.toNat d7.1) b0)).length + 1) * 48 ≤ lim) then
   bif decide ((([] ++ List.drop (Int.toNat (0 : Int)) (List.take (Int.toNat d7.1) b0)).length + [d].length + 1) * 48 ≤ lim) then
   bif decide (0 ≤ d7.1 ∧ d7.1 ≤ (↑b0.length : Int) ∧ (↑b0.length : Int) ≤ (↑b0.length : Int)) then
   bif decide ((([] ++ List.drop (Int.toNat (0 : Int)) (List.take (Int.toNat d7.1) b0) ++ [d]).length + (List.drop (Int.toNat d7.1) (List.take (↑b0.length : Int).toNat b0)).length + 1) * 48 ≤ lim) then
   some (Sum.inl ([] ++ List.drop (Int.toNat (0 : Int)) (List.take (Int.toNat d7.1) b0) ++ [d] ++ List.drop (Int.toNat d7.1) (List.take (↑b0.length : Int).toNat b0)))
 else none
 else none
 else none
 else none
 else none
noncomputable def fn_ref12_Add_26_0_0  (s1 : (List En)) (b0 : (List En)) : Option (List En) :=
  some b0
noncomputable abbrev rx_ref12_Add_26_0_0  (s1 : (List En)) (i : Nat) (s : (List En)) : ((List En) × Int × (List En)) := (s1, (i : Int), s)
noncomputable def rv_ref12_Add_26_0_0  (s1 : (List En)) (s : (List En)) : Option (List En) := rangeO (fun i s d => bd_ref12_Add_26_0_0  s1 i s d) (fun s => fn_ref12_Add_26_0_0  s1 s) 0 s1 s
theorem rg_ref12_Add_26_0_0  (s1 : (List En)) (s : (List En)) (hl : s1.length < 9223372036854775807) : L_ref12_Add_26_0_0 (s1, 0, s) = rv_ref12_Add_26_0_0  s1 s := by
  unfold L_ref12_Add_26_0_0 rv_ref12_Add_26_0_0
  refine iterO_range0 s1 (rx_ref12_Add_26_0_0  s1) _ _ ?_ ?_ s (by unfold FUEL; omega)
  · intro i s d hi hd
    have e1 : decide ((i : Int) < (s1.length : Int)) = true := decide_eq_true (by omega)
    have e2 : decide (0 ≤ (i : Int)) = true := decide_eq_true (by omega)
    have e3 : Int.toNat (i : Int) = i := Int.toNat_natCast i
    have e4 := wrap_next hi (Nat.le_of_lt hl)
    show st_ref12_Add_26_0_0 (s1) ((i : Int)) (s) = upd _ (bd_ref12_Add_26_0_0  s1 i s d)
    unfold st_ref12_Add_26_0_0 bd_ref12_Add_26_0_0
    simp only [e1, e2, e3, e4, hd, cond_true, cond_false, optC_some, upd_cond, upd_optC, upd_elim, upd_inl, upd_inr, upd_none]
  · intro s
    have e1 : decide ((s1.length : Int) < (s1.length : Int)) = false := decide_eq_false (by omega)
    show st_ref12_Add_26_0_0 (s1) ((s1.length : Int)) (s) = _
    unfold st_ref12_Add_26_0_0 fn_ref12_Add_26_0_0
    rw [e1]
    rfl
end Go.Proofs.Ytbdcblpjemmipaa.Ex

namespace Go.Proofs.Ytbdcblpjemmipaa.Ex
set_option maxRecDepth 100000
set_option maxHeartbeats 2000000
set_option linter.unusedVariables false
set_option linter.unusedSimpArgs false
noncomputable def bd_ref12_place_64_0_0 (b0 : Int) (b0_1 : Bool) (b0_2 : Int) (b0_3 : Int) (b0_4 : Int) (b0_5 : Int) (s0 : (List En)) (i : Nat)  (d : En) : Option (Unit ⊕ ((List En) × Int × Int × Bool × Int × Int × Int × Int)) :=
  optC (G_ref12_order (d, (b0, b0_1, b0_2, b0_3, b0_4, b0_5), ())) (none) fun d11 ↦
   bif decide (d11 < 0) then
   some (Sum.inl ())
 else some (Sum.inr (s0, (i : Int), b0, b0_1, b0_2, b0_3, b0_4, b0_5))
noncomputable def fn_ref12_place_64_0_0 (b0 : Int) (b0_1 : Bool) (b0_2 : Int) (b0_3 : Int) (b0_4 : Int) (b0_5 : Int) (s0 : (List En))  : Option ((List En) × Int × Int × Bool × Int × Int × Int × Int) :=
  some (s0, (s0.length : Int), b0, b0_1, b0_2, b0_3, b0_4, b0_5)
noncomputable abbrev rx_ref12_place_64_0_0 (b0 : Int) (b0_1 : Bool) (b0_2 : Int) (b0_3 : Int) (b0_4 : Int) (b0_5 : Int) (s0 : (List En)) (i : Nat) (s : Unit) : ((List En) × Int × Int × Bool × Int × Int × Int × Int) := (s0, (i : Int), b0, b0_1, b0_2, b0_3, b0_4, b0_5)
noncomputable def rv_ref12_place_64_0_0 (b0 : Int) (b0_1 : Bool) (b0_2 : Int) (b0_3 : Int) (b0_4 : Int) (b0_5 : Int) (s0 : (List En)) (s : Unit) : Option ((List En) × Int × Int × Bool × Int × Int × Int × Int) := rangeO (fun i s d => bd_ref12_place_64_0_0 b0 b0_1 b0_2 b0_3 b0_4 b0_5 s0 i  d) (fun s => fn_ref12_place_64_0_0 b0 b0_1 b0_2 b0_3 b0_4 b0_5 s0 ) 0 s0 s
theorem rg_ref12_place_64_0_0 (b0 : Int) (b0_1 : Bool) (b0_2 : Int) (b0_3 : Int) (b0_4 : Int) (b0_5 : Int) (s0 : (List En)) (s : Unit) (hl : s0.length < 9223372036854775807) : L_ref12_place_64_0_0 (s0, 0, b0, b0_1, b0_2, b0_3, b0_4, b0_5) = rv_ref12_place_64_0_0 b0 b0_1 b0_2 b0_3 b0_4 b0_5 s0 s := by
  unfold L_ref12_place_64_0_0 rv_ref12_place_64_0_0
  refine iterO_range0 s0 (rx_ref12_place_64_0_0 b0 b0_1 b0_2 b0_3 b0_4 b0_5 s0) _ _ ?_ ?_ s (by unfold FUEL; omega)
  · intro i s d hi hd
    have e1 : decide ((i : Int) < (s0.length : Int)) = true := decide_eq_true (by omega)
    have e2 : decide (0 ≤ (i : Int)) = true := decide_eq_true (by omega)
    have e3 : Int.toNat (i : Int) = i := Int.toNat_natCast i
    have e4 := wrap_next hi (Nat.le_of_lt hl)
    show st_ref12_place_64_0_0 (s0) ((i : Int)) (b0) (b0_1) (b0_2) (b0_3) (b0_4) (b0_5) = upd _ (bd_ref12_place_64_0_0 b0 b0_1 b0_2 b0_3 b0_4 b0_5 s0 i  d)
    unfold st_ref12_place_64_0_0 bd_ref12_place_64_0_0
    simp only [e1, e2, e3, e4, hd, cond_true, cond_false, optC_some, upd_cond, upd_optC, upd_elim, upd_inl, upd_inr, upd_none]
  · intro s
    have e1 : decide ((s0.length : Int) < (s0.length : Int)) = false := decide_eq_false (by omega)
    show st_ref12_place_64_0_0 (s0) ((s0.length : Int)) (b0) (b0_1) (b0_2) (b0_3) (b0_4) (b0_5) = _
    unfold st_ref12_place_64_0_0 fn_ref12_place_64_0_0
    rw [e1]
    rfl
end Go.Proofs.Ytbdcblpjemmipaa.Ex

namespace Go.Proofs.Ytbdcblpjemmipaa.Ex
open Go.Proofs
set_option maxRecDepth 100000
set_option maxHeartbeats 2000000
set_option linter.unusedVariables false
set_option linter.unusedSimpArgs false
theorem place_go (e : En) (L : List En) : ∀ (r : List En) (j : Nat), j + r.length = L.length →
    ∃ i : Nat, i ≤ L.length ∧ rangeO (fun i s d => bd_ref12_place_64_0_0 e.1 e.2.1 e.2.2.1 e.2.2.2.1 e.2.2.2.2.1 e.2.2.2.2.2 L i d) (fun s => fn_ref12_place_64_0_0 e.1 e.2.1 e.2.2.1 e.2.2.2.1 e.2.2.2.2.1 e.2.2.2.2.2 L) j r () = some (L, (i : Int), e)
  | [], j, h => ⟨L.length, Nat.le_refl _, rfl⟩
  | d :: r, j, h => by
    have hb : bd_ref12_place_64_0_0 e.1 e.2.1 e.2.2.1 e.2.2.2.1 e.2.2.2.2.1 e.2.2.2.2.2 L j d = bif decide (ordI d e < 0) then some (.inl ()) else some (.inr (L, (j : Int), e)) := by
      unfold bd_ref12_place_64_0_0 G_ref12_order
      simp only [n_ref12_order, optC_some]
    cases q : decide (ordI d e < 0)
    · refine ⟨j, by simp only [List.length_cons] at h; omega, ?_⟩
      rw [q] at hb
      unfold rangeO
      rw [hb]
      rfl
    · rw [q] at hb
      obtain ⟨i, h1, h2⟩ := place_go e L r (j + 1) (by simp only [List.length_cons] at h; omega)
      exact ⟨i, h1, (rangeO_inl hb).trans h2⟩
theorem n_place (l : List En) (d : En) (hl : l.length < 9223372036854775807) : ∃ (i : Nat) (f : Bool), g_ref12_place l d = some ((i : Int), f, ()) ∧ i ≤ l.length ∧ (f = true → i < l.length) := by
  obtain ⟨i, h1, h2⟩ := place_go d l l 0 (by omega)
  unfold g_ref12_place
  rw [show L_ref12_place_64_0_0 (l, 0, d) = some (l, (i : Int), d) from (rg_ref12_place_64_0_0 d.1 d.2.1 d.2.2.1 d.2.2.2.1 d.2.2.2.2.1 d.2.2.2.2.2 l () hl).trans h2]
  simp only [optC_some]
  by_cases h : i < l.length
  · obtain ⟨x, hx⟩ : ∃ x, l[i]? = some x := ⟨l[i], List.getElem?_eq_getElem h⟩
    refine ⟨i, ordI x d == 0, ?_, h1, fun _ => h⟩
    rw [show decide ((i : Int) < (l.length : Int)) = true from decide_eq_true (by omega), show decide (0 ≤ (i : Int)) = true from decide_eq_true (by omega), Int.toNat_natCast, hx]
    simp only [cond_true, optC_some, G_ref12_order, n_ref12_order]
  · refine ⟨i, false, ?_, h1, fun k => nomatch k⟩
    rw [show decide ((i : Int) < (l.length : Int)) = false from decide_eq_false (by omega)]
    rfl
theorem leT_refl (a : List En) : leT a a := fun e he => ⟨e, he, ⟨rfl, rfl, rfl, rfl⟩, leq_refl _⟩
theorem leT_trans {a b c : List En} (h : leT a b) (k : leT b c) : leT a c := fun e he => by
  obtain ⟨d, hd, q, l⟩ := h e he
  obtain ⟨f, hf, q2, l2⟩ := k d hd
  exact ⟨f, hf, ⟨q2.1.trans q.1, q2.2.1.trans q.2.1, q2.2.2.1.trans q.2.2.1, q2.2.2.2.trans q.2.2.2⟩, leq_trans l l2⟩
theorem rjoin_ne {x z : I} (kx : empB x = false) : empB (rJoin x z) = false := (ne_leq (leq_iff.2 (.inr (rjoin_up kx))) kx).2
theorem lim48 {n : Nat} (h : n ≤ 1000) : decide ((n + 1) * 48 ≤ lim) = true := decide_eq_true (by unfold lim; omega)
theorem add_go (L : List En) : ∀ (r : List En) (j : Nat) (s : List En), (∀ x ∈ s, entOK x) → (∀ x ∈ r, isB x.2.2.2.2 = true ∧ 0 ≤ x.2.2.2.1 ∧ x.2.2.2.1 < 2147483648) → s.length + r.length ≤ 900 →
    ∃ c, rangeO (fun i s d => bd_ref12_Add_26_0_0 L i s d) (fun s => fn_ref12_Add_26_0_0 L s) j r s = some c ∧ (∀ x ∈ c, entOK x) ∧ leT s c ∧ c.length ≤ s.length + r.length
  | [], j, s, hs, _, _ => ⟨s, rfl, hs, leT_refl s, Nat.le_refl _⟩
  | d :: r, j, s, hs, hr, hn => by
    simp only [List.length_cons] at hn
    have hd := hr d (List.mem_cons_self ..)
    have hr' : ∀ x ∈ r, isB x.2.2.2.2 = true ∧ 0 ≤ x.2.2.2.1 ∧ x.2.2.2.1 < 2147483648 := fun x hx => hr x (List.mem_cons_of_mem _ hx)
    have step : ∃ s', bd_ref12_Add_26_0_0 L j s d = some (.inl s') ∧ (∀ x ∈ s', entOK x) ∧ leT s s' ∧ s'.length ≤ s.length + 1 := by
      unfold bd_ref12_Add_26_0_0
      rw [decE]
      cases hE : empB d.2.2.2.2
      case true => exact ⟨s, rfl, hs, leT_refl s, by omega⟩
      obtain ⟨i, f, h1, h2, h3⟩ := n_place s d (by omega)
      simp only [cond_false, G_ref12_place, h1, optC_some]
      have ei : decide (0 ≤ (i : Int)) = true := decide_eq_true (by omega)
      cases f
      · have es : decide ((i : Int) ≤ (s.length : Int)) = true := decide_eq_true (by omega)
        have e1 : decide ((0 : Int) ≤ 0 ∧ 0 ≤ (i : Int) ∧ (i : Int) ≤ (s.length : Int)) = true := decide_eq_true (by omega)
        have e2 : decide (0 ≤ (i : Int) ∧ (i : Int) ≤ (s.length : Int) ∧ (s.length : Int) ≤ (s.length : Int)) = true := decide_eq_true (by omega)
        refine ⟨s.take i ++ [d] ++ s.drop i, ?_, fun x hx => ?_, fun e he => ?_, ?_⟩
        · simp only [cond_false, e1, e2, cond_true, Int.toNat_natCast, Int.toNat_zero, List.drop_zero, List.nil_append, List.length_nil, Nat.zero_add, List.take_length]
          rw [lim48 (by simp only [List.length_take]; omega), lim48 (by simp only [List.length_take, List.length_cons, List.length_nil]; omega), lim48 (by simp only [List.length_append, List.length_take, List.length_drop, List.length_cons, List.length_nil]; omega)]
          rfl
        · simp only [List.mem_append, List.mem_singleton] at hx
          rcases hx with (hx | rfl) | hx
          · exact hs x (List.mem_of_mem_take hx)
          · exact ⟨hd.1, hE, hd.2⟩
          · exact hs x (List.mem_of_mem_drop hx)
        · refine ⟨e, ?_, ⟨rfl, rfl, rfl, rfl⟩, leq_refl _⟩
          rw [← List.take_append_drop i s, List.mem_append] at he
          simp only [List.mem_append]
          rcases he with he | he
          · exact .inl (.inl he)
          · exact .inr he
        · simp only [List.length_append, List.length_take, List.length_drop, List.length_cons, List.length_nil]; omega
      · have hi := h3 rfl
        obtain ⟨x, hx⟩ : ∃ x, s[i]? = some x := ⟨s[i], List.getElem?_eq_getElem hi⟩
        have hxs : x ∈ s := List.mem_of_getElem? hx
        have kx := hs x hxs
        simp only [cond_true, ei, Int.toNat_natCast, hx, optC_some, G_ref2_Join, n_ref2_Join]
        refine ⟨_, rfl, fun y hy => ?_, fun e he => ?_, by simp⟩
        · rcases List.mem_or_eq_of_mem_set hy with h | rfl
          · exact hs y h
          · exact ⟨rjoin_is kx.v hd.1, rjoin_ne kx.n, kx.h⟩
        · obtain ⟨q, hq, he'⟩ := List.mem_iff_getElem.1 he
          by_cases hqi : i = q
          · subst hqi
            have : x = e := by rw [List.getElem?_eq_getElem hq, he'] at hx; exact (Option.some.inj hx).symm
            subst this
            exact ⟨_, List.mem_set hq _, ⟨rfl, rfl, rfl, rfl⟩, leq_iff.2 (.inr (rjoin_up kx.n))⟩
          · refine ⟨e, ?_, ⟨rfl, rfl, rfl, rfl⟩, leq_refl _⟩
            refine List.mem_iff_getElem?.2 ⟨q, ?_⟩
            rw [List.getElem?_set_ne hqi, List.getElem?_eq_getElem hq, he']
    obtain ⟨s', b1, b2, b3, b4⟩ := step
    obtain ⟨c, c1, c2, c3, c4⟩ := add_go L r (j + 1) s' b2 hr' (by omega)
    exact ⟨c, (rangeO_inl b1).trans c1, c2, leT_trans b3 c3, by simp only [List.length_cons]; omega⟩
theorem n_ref12_Add (a b : List En) (ha : ∀ x ∈ a, entOK x) (hb : ∀ x ∈ b, isB x.2.2.2.2 = true ∧ 0 ≤ x.2.2.2.1 ∧ x.2.2.2.1 < 2147483648) (hn : a.length + b.length ≤ 900) :
    ∃ c, g_ref12_Add a b = some c ∧ (∀ x ∈ c, entOK x) ∧ leT a c ∧ c.length ≤ a.length + b.length := by
  obtain ⟨c, c1, c2, c3, c4⟩ := add_go b b 0 a ha hb hn
  refine ⟨c, ?_, c2, c3, c4⟩
  unfold g_ref12_Add
  simp only [List.nil_append, List.length_nil, Nat.zero_add]
  rw [lim48 (by omega), rg_ref12_Add_26_0_0 b a (by omega)]
  unfold rv_ref12_Add_26_0_0
  rw [c1]
  rfl
end Go.Proofs.Ytbdcblpjemmipaa.Ex

namespace Go.Proofs.Ytbdcblpjemmipaa.Ex
open Go.Proofs
set_option maxRecDepth 100000
set_option maxHeartbeats 2000000
set_option linter.unusedVariables false
set_option linter.unusedSimpArgs false
def goodE (e : E) : Prop := smallE e ∧ okB e.2.2.2.2.1 ∧ okB e.2.2.2.2.2
theorem good_off : goodE offE := ⟨⟨by decide, by decide, by decide⟩, ⟨by decide, by decide⟩, ⟨by decide, by decide⟩⟩
theorem good_set {e : E} {T : Int} {v : I} (h : goodE e) : goodE (setE e T v) := ⟨⟨by show (e.2.1.set _ _).length < _; rw [List.length_set]; exact h.1.1, h.1.2⟩, h.2⟩
theorem good_cond {p : Bool} {x y : E} (hx : goodE x) (hy : goodE y) : goodE (bif p then x else y) := by
  cases p
  · exact hy
  · exact hx
theorem la4 {p q : Bool} : ((bif p then [7] else []) ++ (bif q then [8] else []) : List Int).length ≤ 100 := by cases p <;> cases q <;> decide
theorem la1 {p : Bool} {v : Int} : (bif p then [v] else [] : List Int).length ≤ 100 := by cases p <;> simp
theorem la2 {p : Bool} {v : Int} : (bif p then [] else [v] : List Int).length ≤ 100 := by cases p <;> simp
theorem leO_cond {p q : Bool} {x y : E} (h : p = false → q = false) (k : p = false → leE x y) : leO (bif p then offE else x) (bif q then offE else y) := by
  cases p
  · rw [h rfl]; exact fun _ => k rfl
  · exact leO_off _
theorem leO_cond2 {p q : Bool} {x y : E} (h : p = true → q = true) (k : p = true → leE x y) : leO (bif p then x else offE) (bif q then y else offE) := by
  cases p
  · exact leO_off _
  · rw [h rfl]; exact fun _ => k rfl
theorem al_cond {p q : Bool} {v z : Int} (h : p = true → q = true) (k : z ∈ (bif p then [v] else [])) : z ∈ (bif q then [v] else []) := by
  cases p
  · cases k
  · rw [h rfl]; exact k
theorem al_cond2 {p q : Bool} {v z : Int} (h : q = true → p = true) (k : z ∈ (bif p then [] else [v])) : z ∈ (bif q then [] else [v]) := by
  cases q
  · cases p
    · exact k
    · cases k
  · rw [h rfl] at k; cases k
structure moreO (x y : O) : Prop where
  nx : leO x.1 y.1
  el : leO x.2.1 y.2.1
  al : ∀ z ∈ x.2.2.1, z ∈ y.2.2.1
  st : x.2.2.2.1.length ≤ y.2.2.2.1.length
  ac : x.2.2.2.2.length ≤ y.2.2.2.2.length
  g1 : goodE x.1
  g2 : goodE x.2.1
  g3 : goodE y.1
  g4 : goodE y.2.1
  la : x.2.2.1.length ≤ 100 ∧ y.2.2.1.length ≤ 100
theorem side_mono {e g : E} (h : leE e g) {X Y r : Int} {x y x' y' : I} (hx : empB x = false) (hy : empB y = false) (k1 : leqB x x' = true) (k2 : leqB y y' = true) : leO (sideV e X Y r x y) (sideV g X Y r x' y') := by
  obtain ⟨m1, m2⟩ := ref_mono r hx hy k1 k2
  unfold sideV
  generalize refI r x y = a at m1 m2
  generalize refI r x' y' = b at m1 m2
  cases X == Y
  · show leO (bif empB a.1 then offE else bif empB a.2 then offE else _) (bif empB b.1 then offE else bif empB b.2 then offE else _)
    cases q1 : empB a.1
    · rw [(ne_leq m1 q1).2]
      show leO (bif empB a.2 then offE else setE (setE e X a.1) Y a.2) (bif empB b.2 then offE else setE (setE g X b.1) Y b.2)
      exact leO_cond (fun q => (ne_leq m2 q).2) fun _ => leE_set (leE_set h m1) m2
    · exact leO_off _
  · have m := mspan_mono m1 m2
    exact leO_cond (fun q => (ne_leq m q).2) fun _ => leE_set (leE_set h m) m
theorem side_good {e : E} {X Y r : Int} {x y : I} (h : goodE e) : goodE (sideV e X Y r x y) := by
  unfold sideV
  exact good_cond (good_cond good_off (good_set (good_set h))) (good_cond good_off (good_cond good_off (good_set (good_set h))))
theorem more_1 (u : U) (t n : Int) (e g : E) (l l' : List En) (c : C) (T X Y G N op nx el : Int) (hu : unitOK u) (hE : ∀ x ∈ l, entOK x) (hE' : ∀ x ∈ l', entOK x) (hn : l.length ≤ 1000) (hn' : l'.length ≤ 1000) (he : envOK u t e) (hg : envOK u t g) (ge : goodE e) (gg : goodE g) (hle : leE e g) (hT : leT l l') (hc : u.2.2.2[t.toNat]? = some c) (ha : actOK u c (1, T, X, Y, G, N, op, nx, el)) :
    ∃ x y, bF u t n e l c (1, T, X, Y, G, N, op, nx, el) = some x ∧ bF u t n g l' c (1, T, X, Y, G, N, op, nx, el) = some y ∧ moreO x y := by
  obtain ⟨c', hc', hv⟩ := he.c
  obtain rfl : c' = c := by rw [hc] at hc'; exact (Option.some.inj hc').symm
  have hv2 := hle.v.1
  exact ⟨_, _, val_1 u t n e l c' T X Y G N op nx el  hu hE hn he hc ha, val_1 u t n g l' c' T X Y G N op nx el  hu hE' hn' hg hc ha, ⟨fun _ => leE_set hle (leq_refl _), leO_off _, fun z h => h, Nat.le_refl _, Nat.le_refl _, good_set ge, good_off, good_set gg, good_off, ⟨by simp, by simp⟩⟩⟩
theorem more_2 (u : U) (t n : Int) (e g : E) (l l' : List En) (c : C) (T X Y G N op nx el : Int) (hu : unitOK u) (hE : ∀ x ∈ l, entOK x) (hE' : ∀ x ∈ l', entOK x) (hn : l.length ≤ 1000) (hn' : l'.length ≤ 1000) (he : envOK u t e) (hg : envOK u t g) (ge : goodE e) (gg : goodE g) (hle : leE e g) (hT : leT l l') (hc : u.2.2.2[t.toNat]? = some c) (ha : actOK u c (2, T, X, Y, G, N, op, nx, el)) :
    ∃ x y, bF u t n e l c (2, T, X, Y, G, N, op, nx, el) = some x ∧ bF u t n g l' c (2, T, X, Y, G, N, op, nx, el) = some y ∧ moreO x y := by
  obtain ⟨c', hc', hv⟩ := he.c
  obtain rfl : c' = c := by rw [hc] at hc'; exact (Option.some.inj hc').symm
  have hv2 := hle.v.1
  have hX : 0 ≤ X ∧ X < c'.1 := inB_iff.1 ha.h2
  obtain ⟨x, gx⟩ := look_ex e.2.1 X (by omega)
  obtain ⟨x', gx'⟩ := look_ex g.2.1 X (by omega)
  have lx := hle.v.2 _ x x' gx gx'
  have vx := he.v x (List.mem_append_left _ (List.mem_append_left _ (List.mem_of_getElem? gx)))
  exact ⟨_, _, val_2 u t n e l c' T X Y G N op nx el gx hu hE hn he hc ha, val_2 u t n g l' c' T X Y G N op nx el gx' hu hE' hn' hg hc ha, ⟨fun _ => leE_set hle lx, leO_off _, fun z h => h, Nat.le_refl _, Nat.le_refl _, good_set ge, good_off, good_set gg, good_off, ⟨by simp, by simp⟩⟩⟩
theorem more_3 (u : U) (t n : Int) (e g : E) (l l' : List En) (c : C) (T X Y G N op nx el : Int) (hu : unitOK u) (hE : ∀ x ∈ l, entOK x) (hE' : ∀ x ∈ l', entOK x) (hn : l.length ≤ 1000) (hn' : l'.length ≤ 1000) (he : envOK u t e) (hg : envOK u t g) (ge : goodE e) (gg : goodE g) (hle : leE e g) (hT : leT l l') (hc : u.2.2.2[t.toNat]? = some c) (ha : actOK u c (3, T, X, Y, G, N, op, nx, el)) :
    ∃ x y, bF u t n e l c (3, T, X, Y, G, N, op, nx, el) = some x ∧ bF u t n g l' c (3, T, X, Y, G, N, op, nx, el) = some y ∧ moreO x y := by
  obtain ⟨c', hc', hv⟩ := he.c
  obtain rfl : c' = c := by rw [hc] at hc'; exact (Option.some.inj hc').symm
  have hv2 := hle.v.1
  exact ⟨_, _, val_3 u t n e l c' T X Y G N op nx el  hu hE hn he hc ha, val_3 u t n g l' c' T X Y G N op nx el  hu hE' hn' hg hc ha, ⟨fun _ => leE_set hle (leq_refl _), leO_off _, fun z h => h, Nat.le_refl _, Nat.le_refl _, good_set ge, good_off, good_set gg, good_off, ⟨by simp, by simp⟩⟩⟩
theorem more_4 (u : U) (t n : Int) (e g : E) (l l' : List En) (c : C) (T X Y G N op nx el : Int) (hu : unitOK u) (hE : ∀ x ∈ l, entOK x) (hE' : ∀ x ∈ l', entOK x) (hn : l.length ≤ 1000) (hn' : l'.length ≤ 1000) (he : envOK u t e) (hg : envOK u t g) (ge : goodE e) (gg : goodE g) (hle : leE e g) (hT : leT l l') (hc : u.2.2.2[t.toNat]? = some c) (ha : actOK u c (4, T, X, Y, G, N, op, nx, el)) :
    ∃ x y, bF u t n e l c (4, T, X, Y, G, N, op, nx, el) = some x ∧ bF u t n g l' c (4, T, X, Y, G, N, op, nx, el) = some y ∧ moreO x y := by
  obtain ⟨c', hc', hv⟩ := he.c
  obtain rfl : c' = c := by rw [hc] at hc'; exact (Option.some.inj hc').symm
  have hv2 := hle.v.1
  have hX : 0 ≤ X ∧ X < c'.1 := inB_iff.1 ha.h2
  obtain ⟨x, gx⟩ := look_ex e.2.1 X (by omega)
  obtain ⟨x', gx'⟩ := look_ex g.2.1 X (by omega)
  have lx := hle.v.2 _ x x' gx gx'
  have vx := he.v x (List.mem_append_left _ (List.mem_append_left _ (List.mem_of_getElem? gx)))
  have hY : 0 ≤ Y ∧ Y < c'.1 := inB_iff.1 ha.h3
  obtain ⟨y, gy⟩ := look_ex e.2.1 Y (by omega)
  obtain ⟨y', gy'⟩ := look_ex g.2.1 Y (by omega)
  have ly := hle.v.2 _ y y' gy gy'
  have vy := he.v y (List.mem_append_left _ (List.mem_append_left _ (List.mem_of_getElem? gy)))
  have q := more_do op vx.2 vy.2 (ne_leq lx vx.2).1 (ne_leq ly vy.2).1
  exact ⟨_, _, val_4 u t n e l c' T X Y G N op nx el gx gy hu hE hn he hc ha, val_4 u t n g l' c' T X Y G N op nx el gx' gy' hu hE' hn' hg hc ha, ⟨leO_cond (fun k => (ne_leq q.1 k).2) fun _ => leE_set hle q.1, leO_off _, fun z h => by
    rcases List.mem_append.1 h with h | h
    · exact List.mem_append_left _ (al_cond q.2.1 h)
    · exact List.mem_append_right _ (al_cond q.2.2 h), Nat.le_refl _, Nat.le_refl _, good_cond good_off (good_set ge), good_off, good_cond good_off (good_set gg), good_off, ⟨la4, la4⟩⟩⟩
theorem more_5 (u : U) (t n : Int) (e g : E) (l l' : List En) (c : C) (T X Y G N op nx el : Int) (hu : unitOK u) (hE : ∀ x ∈ l, entOK x) (hE' : ∀ x ∈ l', entOK x) (hn : l.length ≤ 1000) (hn' : l'.length ≤ 1000) (he : envOK u t e) (hg : envOK u t g) (ge : goodE e) (gg : goodE g) (hle : leE e g) (hT : leT l l') (hc : u.2.2.2[t.toNat]? = some c) (ha : actOK u c (5, T, X, Y, G, N, op, nx, el)) :
    ∃ x y, bF u t n e l c (5, T, X, Y, G, N, op, nx, el) = some x ∧ bF u t n g l' c (5, T, X, Y, G, N, op, nx, el) = some y ∧ moreO x y := by
  obtain ⟨c', hc', hv⟩ := he.c
  obtain rfl : c' = c := by rw [hc] at hc'; exact (Option.some.inj hc').symm
  have hv2 := hle.v.1
  have hG : 0 ≤ G ∧ G < (u.1.length : Int) := inB_iff.1 ha.h4
  obtain ⟨d, gd⟩ := look_ex e.2.2.1 G (by rw [he.g]; omega)
  obtain ⟨d', gd'⟩ := look_ex g.2.2.1 G (by rw [hg.g]; omega)
  have ld := hle.g.2 _ d d' gd gd'
  have r := rjoin_mono ld (seenV_mono (t := t) (ar := false) (g := G) hT hle.must)
  exact ⟨_, _, val_5 u t n e l c' T X Y G N op nx el gd hu hE hn he hc ha, val_5 u t n g l' c' T X Y G N op nx el gd' hu hE' hn' hg hc ha, ⟨fun _ => leE_set hle r, leO_off _, fun z h => h, Nat.le_refl _, Nat.le_refl _, good_set ge, good_off, good_set gg, good_off, ⟨by simp, by simp⟩⟩⟩
theorem more_6 (u : U) (t n : Int) (e g : E) (l l' : List En) (c : C) (T X Y G N op nx el : Int) (hu : unitOK u) (hE : ∀ x ∈ l, entOK x) (hE' : ∀ x ∈ l', entOK x) (hn : l.length ≤ 1000) (hn' : l'.length ≤ 1000) (he : envOK u t e) (hg : envOK u t g) (ge : goodE e) (gg : goodE g) (hle : leE e g) (hT : leT l l') (hc : u.2.2.2[t.toNat]? = some c) (ha : actOK u c (6, T, X, Y, G, N, op, nx, el)) :
    ∃ x y, bF u t n e l c (6, T, X, Y, G, N, op, nx, el) = some x ∧ bF u t n g l' c (6, T, X, Y, G, N, op, nx, el) = some y ∧ moreO x y := by
  obtain ⟨c', hc', hv⟩ := he.c
  obtain rfl : c' = c := by rw [hc] at hc'; exact (Option.some.inj hc').symm
  have hv2 := hle.v.1
  have hX : 0 ≤ X ∧ X < c'.1 := inB_iff.1 ha.h2
  obtain ⟨x, gx⟩ := look_ex e.2.1 X (by omega)
  obtain ⟨x', gx'⟩ := look_ex g.2.1 X (by omega)
  have lx := hle.v.2 _ x x' gx gx'
  have vx := he.v x (List.mem_append_left _ (List.mem_append_left _ (List.mem_of_getElem? gx)))
  have gg' : goodE (g.1, g.2.1, g.2.2.1.set G.toNat x', g.2.2.2) := ⟨⟨gg.1.1, by show (g.2.2.1.set _ _).length < _; rw [List.length_set]; exact gg.1.2.1, gg.1.2.2⟩, gg.2⟩
  have ge' : goodE (e.1, e.2.1, e.2.2.1.set G.toNat x, e.2.2.2) := ⟨⟨ge.1.1, by show (e.2.2.1.set _ _).length < _; rw [List.length_set]; exact ge.1.2.1, ge.1.2.2⟩, ge.2⟩
  exact ⟨_, _, val_6 u t n e l c' T X Y G N op nx el gx hu hE hn he hc ha, val_6 u t n g l' c' T X Y G N op nx el gx' hu hE' hn' hg hc ha, ⟨fun _ => ⟨hle.on, hle.v, leR_set hle.g lx, hle.a, hle.must, hle.may⟩, leO_off _, fun z h => h, Nat.le_refl _, Nat.le_refl _, ge', good_off, gg', good_off, ⟨by simp, by simp⟩⟩⟩
theorem more_7 (u : U) (t n : Int) (e g : E) (l l' : List En) (c : C) (T X Y G N op nx el : Int) (hu : unitOK u) (hE : ∀ x ∈ l, entOK x) (hE' : ∀ x ∈ l', entOK x) (hn : l.length ≤ 1000) (hn' : l'.length ≤ 1000) (he : envOK u t e) (hg : envOK u t g) (ge : goodE e) (gg : goodE g) (hle : leE e g) (hT : leT l l') (hc : u.2.2.2[t.toNat]? = some c) (ha : actOK u c (7, T, X, Y, G, N, op, nx, el)) :
    ∃ x y, bF u t n e l c (7, T, X, Y, G, N, op, nx, el) = some x ∧ bF u t n g l' c (7, T, X, Y, G, N, op, nx, el) = some y ∧ moreO x y := by
  obtain ⟨c', hc', hv⟩ := he.c
  obtain rfl : c' = c := by rw [hc] at hc'; exact (Option.some.inj hc').symm
  have hv2 := hle.v.1
  have hX : 0 ≤ X ∧ X < c'.1 := inB_iff.1 ha.h2
  obtain ⟨x, gx⟩ := look_ex e.2.1 X (by omega)
  obtain ⟨x', gx'⟩ := look_ex g.2.1 X (by omega)
  have lx := hle.v.2 _ x x' gx gx'
  have vx := he.v x (List.mem_append_left _ (List.mem_append_left _ (List.mem_of_getElem? gx)))
  have hG : 0 ≤ G ∧ G < (u.2.1.length : Int) := inB_iff.1 ha.h4
  obtain ⟨d, gd⟩ := look_ex e.2.2.2.1 G (by rw [he.a]; omega)
  obtain ⟨d', gd'⟩ := look_ex g.2.2.2.1 G (by rw [hg.a]; omega)
  have ld := hle.a.2 _ d d' gd gd'
  obtain ⟨m, gm⟩ := look_ex u.2.1 G hG
  have mz := mspan_mono lx (leq_refl (0, m - 1))
  have r := rjoin_mono ld (seenV_mono (t := t) (ar := true) (g := G) hT hle.must)
  exact ⟨_, _, val_7 u t n e l c' T X Y G N op nx el gx gm gd hu hE hn he hc ha, val_7 u t n g l' c' T X Y G N op nx el gx' gm gd' hu hE' hn' hg hc ha, ⟨leO_cond (fun k => (ne_leq mz k).2) fun _ => leE_set (leE_set hle mz) r, leO_off _, fun z h => al_cond2 (fun k => leq_trans lx k) h, Nat.le_refl _, Nat.le_refl _, good_cond good_off (good_set (good_set ge)), good_off, good_cond good_off (good_set (good_set gg)), good_off, ⟨la2, la2⟩⟩⟩
theorem more_8 (u : U) (t n : Int) (e g : E) (l l' : List En) (c : C) (T X Y G N op nx el : Int) (hu : unitOK u) (hE : ∀ x ∈ l, entOK x) (hE' : ∀ x ∈ l', entOK x) (hn : l.length ≤ 1000) (hn' : l'.length ≤ 1000) (he : envOK u t e) (hg : envOK u t g) (ge : goodE e) (gg : goodE g) (hle : leE e g) (hT : leT l l') (hc : u.2.2.2[t.toNat]? = some c) (ha : actOK u c (8, T, X, Y, G, N, op, nx, el)) :
    ∃ x y, bF u t n e l c (8, T, X, Y, G, N, op, nx, el) = some x ∧ bF u t n g l' c (8, T, X, Y, G, N, op, nx, el) = some y ∧ moreO x y := by
  obtain ⟨c', hc', hv⟩ := he.c
  obtain rfl : c' = c := by rw [hc] at hc'; exact (Option.some.inj hc').symm
  have hv2 := hle.v.1
  have hX : 0 ≤ X ∧ X < c'.1 := inB_iff.1 ha.h2
  obtain ⟨x, gx⟩ := look_ex e.2.1 X (by omega)
  obtain ⟨x', gx'⟩ := look_ex g.2.1 X (by omega)
  have lx := hle.v.2 _ x x' gx gx'
  have vx := he.v x (List.mem_append_left _ (List.mem_append_left _ (List.mem_of_getElem? gx)))
  have hY : 0 ≤ Y ∧ Y < c'.1 := inB_iff.1 ha.h3
  obtain ⟨y, gy⟩ := look_ex e.2.1 Y (by omega)
  obtain ⟨y', gy'⟩ := look_ex g.2.1 Y (by omega)
  have ly := hle.v.2 _ y y' gy gy'
  have vy := he.v y (List.mem_append_left _ (List.mem_append_left _ (List.mem_of_getElem? gy)))
  have hG : 0 ≤ G ∧ G < (u.2.1.length : Int) := inB_iff.1 ha.h4
  obtain ⟨d, gd⟩ := look_ex e.2.2.2.1 G (by rw [he.a]; omega)
  obtain ⟨d', gd'⟩ := look_ex g.2.2.2.1 G (by rw [hg.a]; omega)
  have ld := hle.a.2 _ d d' gd gd'
  obtain ⟨m, gm⟩ := look_ex u.2.1 G hG
  have mz := mspan_mono lx (leq_refl (0, m - 1))
  obtain ⟨p, gp⟩ := look_ex (e.2.1.set X.toNat (mSpan x (0, m - 1))) Y (by rw [List.length_set]; omega)
  obtain ⟨p', gp'⟩ := look_ex (g.2.1.set X.toNat (mSpan x' (0, m - 1))) Y (by rw [List.length_set]; omega)
  have lp := (leR_set (i := X.toNat) hle.v mz).2 _ p p' gp gp'
  have r := rjoin_mono ld lp
  have gg' : goodE (g.1, g.2.1.set X.toNat (mSpan x' (0, m - 1)), g.2.2.1, g.2.2.2.1.set G.toNat (rJoin d' p'), g.2.2.2.2) := ⟨⟨by show (g.2.1.set _ _).length < _; rw [List.length_set]; exact gg.1.1, gg.1.2.1, by show (g.2.2.2.1.set _ _).length < _; rw [List.length_set]; exact gg.1.2.2⟩, gg.2⟩
  have ge' : goodE (e.1, e.2.1.set X.toNat (mSpan x (0, m - 1)), e.2.2.1, e.2.2.2.1.set G.toNat (rJoin d p), e.2.2.2.2) := ⟨⟨by show (e.2.1.set _ _).length < _; rw [List.length_set]; exact ge.1.1, ge.1.2.1, by show (e.2.2.2.1.set _ _).length < _; rw [List.length_set]; exact ge.1.2.2⟩, ge.2⟩
  exact ⟨_, _, val_8 u t n e l c' T X Y G N op nx el gx gy gm gd gp hu hE hn he hc ha, val_8 u t n g l' c' T X Y G N op nx el gx' gy' gm gd' gp' hu hE' hn' hg hc ha, ⟨leO_cond (fun k => (ne_leq mz k).2) fun _ => ⟨hle.on, leR_set hle.v mz, hle.g, leR_set hle.a r, hle.must, hle.may⟩, leO_off _, fun z h => al_cond2 (fun k => leq_trans lx k) h, Nat.le_refl _, Nat.le_refl _, good_cond good_off ge', good_off, good_cond good_off gg', good_off, ⟨la2, la2⟩⟩⟩
theorem more_9 (u : U) (t n : Int) (e g : E) (l l' : List En) (c : C) (T X Y G N op nx el : Int) (hu : unitOK u) (hE : ∀ x ∈ l, entOK x) (hE' : ∀ x ∈ l', entOK x) (hn : l.length ≤ 1000) (hn' : l'.length ≤ 1000) (he : envOK u t e) (hg : envOK u t g) (ge : goodE e) (gg : goodE g) (hle : leE e g) (hT : leT l l') (hc : u.2.2.2[t.toNat]? = some c) (ha : actOK u c (9, T, X, Y, G, N, op, nx, el)) :
    ∃ x y, bF u t n e l c (9, T, X, Y, G, N, op, nx, el) = some x ∧ bF u t n g l' c (9, T, X, Y, G, N, op, nx, el) = some y ∧ moreO x y := by
  obtain ⟨c', hc', hv⟩ := he.c
  obtain rfl : c' = c := by rw [hc] at hc'; exact (Option.some.inj hc').symm
  have hv2 := hle.v.1
  have w1 := wi_bits e.2.2.2.2.1 G ge.2.1
  have w2 := wi_bits e.2.2.2.2.2 G ge.2.2
  have w3 := wi_bits g.2.2.2.2.1 G gg.2.1
  have w4 := wi_bits g.2.2.2.2.2 G gg.2.2
  have ge' : goodE (e.1, e.2.1, gmap l t false e.2.2.2.2.1 G e.2.2.1, gmap l t true e.2.2.2.2.1 G e.2.2.2.1, wiI e.2.2.2.2.1 G, wiI e.2.2.2.2.2 G) := ⟨⟨ge.1.1, by simpa [gmap] using ge.1.2.1, by simpa [gmap] using ge.1.2.2⟩, w1.1, w2.1⟩
  have gg' : goodE (g.1, g.2.1, gmap l' t false g.2.2.2.2.1 G g.2.2.1, gmap l' t true g.2.2.2.2.1 G g.2.2.2.1, wiI g.2.2.2.2.1 G, wiI g.2.2.2.2.2 G) := ⟨⟨gg.1.1, by simpa [gmap] using gg.1.2.1, by simpa [gmap] using gg.1.2.2⟩, w3.1, w4.1⟩
  exact ⟨_, _, val_9 u t n e l c' T X Y G N op nx el  hu hE hn he hc ha, val_9 u t n g l' c' T X Y G N op nx el  hu hE' hn' hg hc ha, ⟨leO_cond (fun k => by
    cases q : tb g.2.2.2.2.1 G
    · rfl
    · rw [tb_mono hle.must q] at k; cases k) fun _ => ⟨hle.on, hle.v, gmap_mono hT hle.must hle.g, gmap_mono hT hle.must hle.a, wi_mono gg.2.1 ge.2.1 hle.must, wi_mono ge.2.2 gg.2.2 hle.may⟩, leO_off _, fun z h => al_cond (tb_mono hle.may) h, Nat.le_refl _, Nat.le_refl _, good_cond good_off ge', good_off, good_cond good_off gg', good_off, ⟨la1, la1⟩⟩⟩
theorem more_10 (u : U) (t n : Int) (e g : E) (l l' : List En) (c : C) (T X Y G N op nx el : Int) (hu : unitOK u) (hE : ∀ x ∈ l, entOK x) (hE' : ∀ x ∈ l', entOK x) (hn : l.length ≤ 1000) (hn' : l'.length ≤ 1000) (he : envOK u t e) (hg : envOK u t g) (ge : goodE e) (gg : goodE g) (hle : leE e g) (hT : leT l l') (hc : u.2.2.2[t.toNat]? = some c) (ha : actOK u c (10, T, X, Y, G, N, op, nx, el)) :
    ∃ x y, bF u t n e l c (10, T, X, Y, G, N, op, nx, el) = some x ∧ bF u t n g l' c (10, T, X, Y, G, N, op, nx, el) = some y ∧ moreO x y := by
  obtain ⟨c', hc', hv⟩ := he.c
  obtain rfl : c' = c := by rw [hc] at hc'; exact (Option.some.inj hc').symm
  have hv2 := hle.v.1
  have w1 := wo_bits e.2.2.2.2.1 G ge.2.1
  have w2 := wo_bits e.2.2.2.2.2 G ge.2.2
  have w3 := wo_bits g.2.2.2.2.1 G gg.2.1
  have w4 := wo_bits g.2.2.2.2.2 G gg.2.2
  exact ⟨_, _, val_10 u t n e l c' T X Y G N op nx el  hu hE hn he hc ha, val_10 u t n g l' c' T X Y G N op nx el  hu hE' hn' hg hc ha, ⟨leO_cond2 (tb_mono hle.may) fun _ => ⟨hle.on, hle.v, hle.g, hle.a, wo_mono gg.2.1 ge.2.1 hle.must, wo_mono ge.2.2 gg.2.2 hle.may⟩, leO_off _, fun z h => al_cond2 (tb_mono hle.must) h, Nat.le_refl _, Nat.le_refl _, good_cond ⟨ge.1, w1.1, w2.1⟩ good_off, good_off, good_cond ⟨gg.1, w3.1, w4.1⟩ good_off, good_off, ⟨la2, la2⟩⟩⟩
theorem more_11 (u : U) (t n : Int) (e g : E) (l l' : List En) (c : C) (T X Y G N op nx el : Int) (hu : unitOK u) (hE : ∀ x ∈ l, entOK x) (hE' : ∀ x ∈ l', entOK x) (hn : l.length ≤ 1000) (hn' : l'.length ≤ 1000) (he : envOK u t e) (hg : envOK u t g) (ge : goodE e) (gg : goodE g) (hle : leE e g) (hT : leT l l') (hc : u.2.2.2[t.toNat]? = some c) (ha : actOK u c (11, T, X, Y, G, N, op, nx, el)) :
    ∃ x y, bF u t n e l c (11, T, X, Y, G, N, op, nx, el) = some x ∧ bF u t n g l' c (11, T, X, Y, G, N, op, nx, el) = some y ∧ moreO x y := by
  obtain ⟨c', hc', hv⟩ := he.c
  obtain rfl : c' = c := by rw [hc] at hc'; exact (Option.some.inj hc').symm
  have hv2 := hle.v.1
  have hX : 0 ≤ X ∧ X < c'.1 := inB_iff.1 ha.h2
  obtain ⟨x, gx⟩ := look_ex e.2.1 X (by omega)
  obtain ⟨x', gx'⟩ := look_ex g.2.1 X (by omega)
  have lx := hle.v.2 _ x x' gx gx'
  have vx := he.v x (List.mem_append_left _ (List.mem_append_left _ (List.mem_of_getElem? gx)))
  have hY : 0 ≤ Y ∧ Y < c'.1 := inB_iff.1 ha.h3
  obtain ⟨y, gy⟩ := look_ex e.2.1 Y (by omega)
  obtain ⟨y', gy'⟩ := look_ex g.2.1 Y (by omega)
  have ly := hle.v.2 _ y y' gy gy'
  have vy := he.v y (List.mem_append_left _ (List.mem_append_left _ (List.mem_of_getElem? gy)))
  obtain ⟨w, n1⟩ := not_ex op
  exact ⟨_, _, val_11 u t n e l c' T X Y G N op nx el gx gy n1 hu hE hn he hc ha, val_11 u t n g l' c' T X Y G N op nx el gx' gy' n1 hu hE' hn' hg hc ha, ⟨side_mono hle vx.2 vy.2 lx ly, side_mono hle vx.2 vy.2 lx ly, fun z h => h, Nat.le_refl _, Nat.le_refl _, side_good ge, side_good ge, side_good gg, side_good gg, ⟨by simp, by simp⟩⟩⟩
theorem more_12 (u : U) (t n : Int) (e g : E) (l l' : List En) (c : C) (T X Y G N op nx el : Int) (hu : unitOK u) (hE : ∀ x ∈ l, entOK x) (hE' : ∀ x ∈ l', entOK x) (hn : l.length ≤ 1000) (hn' : l'.length ≤ 1000) (he : envOK u t e) (hg : envOK u t g) (ge : goodE e) (gg : goodE g) (hle : leE e g) (hT : leT l l') (hc : u.2.2.2[t.toNat]? = some c) (ha : actOK u c (12, T, X, Y, G, N, op, nx, el)) :
    ∃ x y, bF u t n e l c (12, T, X, Y, G, N, op, nx, el) = some x ∧ bF u t n g l' c (12, T, X, Y, G, N, op, nx, el) = some y ∧ moreO x y := by
  obtain ⟨c', hc', hv⟩ := he.c
  obtain rfl : c' = c := by rw [hc] at hc'; exact (Option.some.inj hc').symm
  have hv2 := hle.v.1
  exact ⟨_, _, val_12 u t n e l c' T X Y G N op nx el  hu hE hn he hc ha, val_12 u t n g l' c' T X Y G N op nx el  hu hE' hn' hg hc ha, ⟨fun _ => hle, leO_off _, fun z h => h, Nat.le_refl _, Nat.le_refl _, ge, good_off, gg, good_off, ⟨by simp, by simp⟩⟩⟩
theorem more_13 (u : U) (t n : Int) (e g : E) (l l' : List En) (c : C) (T X Y G N op nx el : Int) (hu : unitOK u) (hE : ∀ x ∈ l, entOK x) (hE' : ∀ x ∈ l', entOK x) (hn : l.length ≤ 1000) (hn' : l'.length ≤ 1000) (he : envOK u t e) (hg : envOK u t g) (ge : goodE e) (gg : goodE g) (hle : leE e g) (hT : leT l l') (hc : u.2.2.2[t.toNat]? = some c) (ha : actOK u c (13, T, X, Y, G, N, op, nx, el)) :
    ∃ x y, bF u t n e l c (13, T, X, Y, G, N, op, nx, el) = some x ∧ bF u t n g l' c (13, T, X, Y, G, N, op, nx, el) = some y ∧ moreO x y := by
  obtain ⟨c', hc', hv⟩ := he.c
  obtain rfl : c' = c := by rw [hc] at hc'; exact (Option.some.inj hc').symm
  have hv2 := hle.v.1
  exact ⟨_, _, val_13 u t n e l c' T X Y G N op nx el  hu hE hn he hc ha, val_13 u t n g l' c' T X Y G N op nx el  hu hE' hn' hg hc ha, ⟨leO_off _, leO_off _, fun z h => h, Nat.le_refl _, Nat.le_refl _, good_off, good_off, good_off, good_off, ⟨by simp, by simp⟩⟩⟩
theorem more_14 (u : U) (t n : Int) (e g : E) (l l' : List En) (c : C) (T X Y G N op nx el : Int) (hu : unitOK u) (hE : ∀ x ∈ l, entOK x) (hE' : ∀ x ∈ l', entOK x) (hn : l.length ≤ 1000) (hn' : l'.length ≤ 1000) (he : envOK u t e) (hg : envOK u t g) (ge : goodE e) (gg : goodE g) (hle : leE e g) (hT : leT l l') (hc : u.2.2.2[t.toNat]? = some c) (ha : actOK u c (14, T, X, Y, G, N, op, nx, el)) :
    ∃ x y, bF u t n e l c (14, T, X, Y, G, N, op, nx, el) = some x ∧ bF u t n g l' c (14, T, X, Y, G, N, op, nx, el) = some y ∧ moreO x y := by
  obtain ⟨c', hc', hv⟩ := he.c
  obtain rfl : c' = c := by rw [hc] at hc'; exact (Option.some.inj hc').symm
  have hv2 := hle.v.1
  exact ⟨_, _, val_14 u t n e l c' T X Y G N op nx el  hu hE hn he hc ha, val_14 u t n g l' c' T X Y G N op nx el  hu hE' hn' hg hc ha, ⟨leO_off _, leO_off _, fun z h => h, Nat.le_refl _, Nat.le_refl _, good_off, good_off, good_off, good_off, ⟨by simp, by simp⟩⟩⟩
end Go.Proofs.Ytbdcblpjemmipaa.Ex

