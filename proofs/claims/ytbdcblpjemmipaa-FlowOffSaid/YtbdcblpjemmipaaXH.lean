/- A part of the proofs of the laws of flow: XH. -/
import Derived.Test.YtbdcblpjemmipaaXF
import Derived.Test.YtbdcblpjemmipaaXG
import Derived.Test.YtbdcblpjemmipaaXD
/- (*meddler/flow.deed).gains: what it makes of data. -/
namespace Go.Proofs.Ytbdcblpjemmipaa.Ex
open Go.Proofs Go.Proofs.Ytbdcblpjemmipaa
set_option maxRecDepth 100000
set_option maxHeartbeats 2000000
set_option linter.unusedVariables false
set_option linter.unusedSimpArgs false
def ash_flow_deed_gains : List Sh := [.view [.int .i64, .int .i64, .int .i64, .int .i64, .int .i64, .int .i64, .int .i64, .int .i64, .int .i64, .sln (.int .i64), .sln (.int .i64), .int .i64, .sln tC, .int .i64, .int .i64, .bool, .sln tI, .sln tI, .sln tI, .int .i64, .int .i64, .sln tEn, .bool, .sln tI, .sln tI, .sln tI, .int .i64, .int .i64, .bool, .sln tI, .sln tI, .sln tI, .int .i64, .int .i64, .sln (.int .i64), .sln tEn, .sln tAc] 0, .dat (.sl tI), .dat .bool]
def kp_flow_deed_gains_133_0 : Nat → List Nat := fun c => bif c.beq 0 then [0, 1, 2, 11, 12, 13] else [1]
noncomputable def sp_flow_deed_gains : Nat → Option (List AV → Prog AV)
  | 131 => some (con_slices_Clone_Itv)
  | 14 => some (con_tab_Gained)
  | 55 => some (con_itv_Join)
  | _ => none
theorem hsp_flow_deed_gains : ∀ g p, sp_flow_deed_gains g = some p → SoundA Try.prog g p := by
  intro g p h
  unfold sp_flow_deed_gains at h
  split at h
  · cases h; exact snd_slices_Clone_Itv
  · cases h; exact snd_tab_Gained
  · cases h; exact snd_itv_Join
  · cases h
noncomputable def cx_flow_deed_gains0 : Ctx := { tab := tab, spec := sp_flow_deed_gains, inl := inl, lps := fun _ _ => none, fuel := 40 }
theorem in_flow_deed_gains0 : InlOk Try.prog cx_flow_deed_gains0 := ⟨inl_ok, fun _ _ _ _ _ _ _ _ h => nomatch h⟩
theorem cal_flow_deed_gains0 (g : Nat) : SoundA Try.prog g (evF cx_flow_deed_gains0 keeps 8 g) := evF_sound (tabOk_of tab_ok) (cmpsOk_of tab_ok cmps_ok) mixed in_flow_deed_gains0 hsp_flow_deed_gains keeps 8 g
noncomputable def F_flow_deed_gains_133_0 (base : Nat) : Tm → Prog (Nat × Tm) := evC cx_flow_deed_gains0 (evF cx_flow_deed_gains0 keeps 8) ⟨133, 47, keeps 133, base⟩ 0 (bodyX 133 0)
def s_flow_deed_gains_133_0_0 : StS := ⟨[(0, .view [.int .i64, .int .i64, .int .i64, .int .i64, .int .i64, .int .i64, .int .i64, .int .i64, .int .i64, .sl (.int .i64), .sl (.int .i64), .int .i64, .sl tC, .int .i64, .int .i64, .bool, .sl tI, .sl tI, .sl tI, .int .i64, .int .i64, .sl tEn, .bool, .sl tI, .sl tI, .sl tI, .int .i64, .int .i64, .bool, .sl tI, .sl tI, .sl tI, .int .i64, .int .i64, .sl (.int .i64), .sl tEn, .sl tAc] 0), (1, .row 0), (2, .bool), (11, .row 0), (12, .int .i64), (13, .int .i64)], [(0, .row tI)], 1⟩
def x_flow_deed_gains_133_0_0_0 : StS := ⟨[(1, .row 0)], [(0, .row tI)], 1⟩
noncomputable def st_flow_deed_gains_133_0_0 (s0 : Int) (s0_1 : Int) (s0_2 : Int) (s0_3 : Int) (s0_4 : Int) (s0_5 : Int) (s0_6 : Int) (s0_7 : Int) (s0_8 : Int) (s0_9 : (List Int)) (s0_10 : (List Int)) (s0_11 : Int) (s0_12 : (List C)) (s0_13 : Int) (s0_14 : Int) (s0_15 : Bool) (s0_16 : (List I)) (s0_17 : (List I)) (s0_18 : (List I)) (s0_19 : Int) (s0_20 : Int) (s0_21 : (List En)) (s0_22 : Bool) (s0_23 : (List I)) (s0_24 : (List I)) (s0_25 : (List I)) (s0_26 : Int) (s0_27 : Int) (s0_28 : Bool) (s0_29 : (List I)) (s0_30 : (List I)) (s0_31 : (List I)) (s0_32 : Int) (s0_33 : Int) (s0_34 : (List Int)) (s0_35 : (List En)) (s0_36 : (List Ac)) (s2 : Bool) (s12 : Int) (s13 : Int) (b0 : (List I)) : Option ((Int × Int × Int × Int × Int × Int × Int × Int × Int × (List Int) × (List Int) × Int × (List C) × Int × Int × Bool × (List I) × (List I) × (List I) × Int × Int × (List En) × Bool × (List I) × (List I) × (List I) × Int × Int × Bool × (List I) × (List I) × (List I) × Int × Int × (List Int) × (List En) × (List Ac) × Bool × Int × Int × (List I)) ⊕ (List I)) :=
  bif Decidable.decide (s13 < s12) then
 bif Decidable.decide (0 ≤ s13) then
 Go.Proofs.Ytbdcblpjemmipaa.Ex.optC b0[s13.toNat]? Option.none fun d43 ↦
 Go.Proofs.Ytbdcblpjemmipaa.Ex.optC b0[s13.toNat]? Option.none fun d44 ↦
 Go.Proofs.Ytbdcblpjemmipaa.Ex.optC (Go.Proofs.Ytbdcblpjemmipaa.Ex.G_tab_Gained (s0_21, s0_13, s2, s13, s0_19, s0_4, ())) Option.none fun d45 ↦
 Go.Proofs.Ytbdcblpjemmipaa.Ex.optC (Go.Proofs.Ytbdcblpjemmipaa.Ex.G_itv_Join ([d44, d45], ())) Option.none fun d46 ↦
 bif Decidable.decide (0 ≤ s13) then
 Go.Proofs.Ytbdcblpjemmipaa.Ex.optC b0[s13.toNat]? Option.none fun d47 ↦
 Go.Proofs.Ytbdcblpjemmipaa.Ex.optC b0[s13.toNat]? Option.none fun d48 ↦
 Option.some
 (Sum.inl
 (s0, s0_1, s0_2, s0_3, s0_4, s0_5, s0_6, s0_7, s0_8, s0_9, s0_10, s0_11, s0_12, s0_13, s0_14, s0_15, s0_16, s0_17, s0_18, s0_19, s0_20, s0_21, s0_22, s0_23, s0_24, s0_25, s0_26,
 s0_27, s0_28, s0_29, s0_30, s0_31, s0_32, s0_33, s0_34, s0_35, s0_36, s2, s12, Go.IntKind.i64.wrap (s13 + 1), b0.set s13.toNat d46))
 else Option.none
 else Option.none
 else Option.some (Sum.inr b0)
theorem rn_flow_deed_gains_133_0_0 (s0 : Int) (s0_1 : Int) (s0_2 : Int) (s0_3 : Int) (s0_4 : Int) (s0_5 : Int) (s0_6 : Int) (s0_7 : Int) (s0_8 : Int) (s0_9 : (List Int)) (s0_10 : (List Int)) (s0_11 : Int) (s0_12 : (List C)) (s0_13 : Int) (s0_14 : Int) (s0_15 : Bool) (s0_16 : (List I)) (s0_17 : (List I)) (s0_18 : (List I)) (s0_19 : Int) (s0_20 : Int) (s0_21 : (List En)) (s0_22 : Bool) (s0_23 : (List I)) (s0_24 : (List I)) (s0_25 : (List I)) (s0_26 : Int) (s0_27 : Int) (s0_28 : Bool) (s0_29 : (List I)) (s0_30 : (List I)) (s0_31 : (List I)) (s0_32 : Int) (s0_33 : Int) (s0_34 : (List Int)) (s0_35 : (List En)) (s0_36 : (List Ac)) (s2 : Bool) (s12 : Int) (s13 : Int) (b0 : (List I)) : rdX cx_flow_deed_gains0 keeps 8 ⟨133, 47, keeps 133, 0⟩ 0 (bodyX 133 0) 0 kp_flow_deed_gains_133_0 (sT s_flow_deed_gains_133_0_0 (((s0, s0_1, s0_2, s0_3, s0_4, s0_5, s0_6, s0_7, s0_8, s0_9, s0_10, s0_11, s0_12, s0_13, s0_14, s0_15, s0_16, s0_17, s0_18, s0_19, s0_20, s0_21, s0_22, s0_23, s0_24, s0_25, s0_26, s0_27, s0_28, s0_29, s0_30, s0_31, s0_32, s0_33, s0_34, s0_35, s0_36, ()), (), s2, (), s12, s13, ()), (b0, ()))) (sH s_flow_deed_gains_133_0_0 (((s0, s0_1, s0_2, s0_3, s0_4, s0_5, s0_6, s0_7, s0_8, s0_9, s0_10, s0_11, s0_12, s0_13, s0_14, s0_15, s0_16, s0_17, s0_18, s0_19, s0_20, s0_21, s0_22, s0_23, s0_24, s0_25, s0_26, s0_27, s0_28, s0_29, s0_30, s0_31, s0_32, s0_33, s0_34, s0_35, s0_36, ()), (), s2, (), s12, s13, ()), (b0, ()))) (rdO (fun T h => (rdS s_flow_deed_gains_133_0_0 T h).map (fun (d : (((Int × (Int × (Int × (Int × (Int × (Int × (Int × (Int × (Int × ((List Int) × ((List Int) × (Int × ((List C) × (Int × (Int × (Bool × ((List I) × ((List I) × ((List I) × (Int × (Int × ((List En) × (Bool × ((List I) × ((List I) × ((List I) × (Int × (Int × (Bool × ((List I) × ((List I) × ((List I) × (Int × (Int × ((List Int) × ((List En) × ((List Ac) × Unit))))))))))))))))))))))))))))))))))))) × (Unit × (Bool × (Unit × (Int × (Int × Unit)))))) × ((List I) × Unit))) => ((d.1.1.1, d.1.1.2.1, d.1.1.2.2.1, d.1.1.2.2.2.1, d.1.1.2.2.2.2.1, d.1.1.2.2.2.2.2.1, d.1.1.2.2.2.2.2.2.1, d.1.1.2.2.2.2.2.2.2.1, d.1.1.2.2.2.2.2.2.2.2.1, d.1.1.2.2.2.2.2.2.2.2.2.1, d.1.1.2.2.2.2.2.2.2.2.2.2.1, d.1.1.2.2.2.2.2.2.2.2.2.2.2.1, d.1.1.2.2.2.2.2.2.2.2.2.2.2.2.1, d.1.1.2.2.2.2.2.2.2.2.2.2.2.2.2.1, d.1.1.2.2.2.2.2.2.2.2.2.2.2.2.2.2.1, d.1.1.2.2.2.2.2.2.2.2.2.2.2.2.2.2.2.1, d.1.1.2.2.2.2.2.2.2.2.2.2.2.2.2.2.2.2.1, d.1.1.2.2.2.2.2.2.2.2.2.2.2.2.2.2.2.2.2.1, d.1.1.2.2.2.2.2.2.2.2.2.2.2.2.2.2.2.2.2.2.1, d.1.1.2.2.2.2.2.2.2.2.2.2.2.2.2.2.2.2.2.2.2.1, d.1.1.2.2.2.2.2.2.2.2.2.2.2.2.2.2.2.2.2.2.2.2.1, d.1.1.2.2.2.2.2.2.2.2.2.2.2.2.2.2.2.2.2.2.2.2.2.1, d.1.1.2.2.2.2.2.2.2.2.2.2.2.2.2.2.2.2.2.2.2.2.2.2.1, d.1.1.2.2.2.2.2.2.2.2.2.2.2.2.2.2.2.2.2.2.2.2.2.2.2.1, d.1.1.2.2.2.2.2.2.2.2.2.2.2.2.2.2.2.2.2.2.2.2.2.2.2.2.1, d.1.1.2.2.2.2.2.2.2.2.2.2.2.2.2.2.2.2.2.2.2.2.2.2.2.2.2.1, d.1.1.2.2.2.2.2.2.2.2.2.2.2.2.2.2.2.2.2.2.2.2.2.2.2.2.2.2.1, d.1.1.2.2.2.2.2.2.2.2.2.2.2.2.2.2.2.2.2.2.2.2.2.2.2.2.2.2.2.1, d.1.1.2.2.2.2.2.2.2.2.2.2.2.2.2.2.2.2.2.2.2.2.2.2.2.2.2.2.2.2.1, d.1.1.2.2.2.2.2.2.2.2.2.2.2.2.2.2.2.2.2.2.2.2.2.2.2.2.2.2.2.2.2.1, d.1.1.2.2.2.2.2.2.2.2.2.2.2.2.2.2.2.2.2.2.2.2.2.2.2.2.2.2.2.2.2.2.1, d.1.1.2.2.2.2.2.2.2.2.2.2.2.2.2.2.2.2.2.2.2.2.2.2.2.2.2.2.2.2.2.2.2.1, d.1.1.2.2.2.2.2.2.2.2.2.2.2.2.2.2.2.2.2.2.2.2.2.2.2.2.2.2.2.2.2.2.2.2.1, d.1.1.2.2.2.2.2.2.2.2.2.2.2.2.2.2.2.2.2.2.2.2.2.2.2.2.2.2.2.2.2.2.2.2.2.1, d.1.1.2.2.2.2.2.2.2.2.2.2.2.2.2.2.2.2.2.2.2.2.2.2.2.2.2.2.2.2.2.2.2.2.2.2.1, d.1.1.2.2.2.2.2.2.2.2.2.2.2.2.2.2.2.2.2.2.2.2.2.2.2.2.2.2.2.2.2.2.2.2.2.2.2.1, d.1.1.2.2.2.2.2.2.2.2.2.2.2.2.2.2.2.2.2.2.2.2.2.2.2.2.2.2.2.2.2.2.2.2.2.2.2.2.1, d.1.2.2.1, d.1.2.2.2.2.1, d.1.2.2.2.2.2.1, d.2.1) : (Int × Int × Int × Int × Int × Int × Int × Int × Int × (List Int) × (List Int) × Int × (List C) × Int × Int × Bool × (List I) × (List I) × (List I) × Int × Int × (List En) × Bool × (List I) × (List I) × (List I) × Int × Int × Bool × (List I) × (List I) × (List I) × Int × Int × (List Int) × (List En) × (List Ac) × Bool × Int × Int × (List I))))) (getE 2 x_flow_deed_gains_133_0_0_0 (fun (d : ((Unit × Unit) × ((List I) × Unit))) => ((d.2.1) : (List I))))) = st_flow_deed_gains_133_0_0 s0 s0_1 s0_2 s0_3 s0_4 s0_5 s0_6 s0_7 s0_8 s0_9 s0_10 s0_11 s0_12 s0_13 s0_14 s0_15 s0_16 s0_17 s0_18 s0_19 s0_20 s0_21 s0_22 s0_23 s0_24 s0_25 s0_26 s0_27 s0_28 s0_29 s0_30 s0_31 s0_32 s0_33 s0_34 s0_35 s0_36 s2 s12 s13 b0 := by kernel_rfl
noncomputable def L_flow_deed_gains_133_0_0 (x : (Int × Int × Int × Int × Int × Int × Int × Int × Int × (List Int) × (List Int) × Int × (List C) × Int × Int × Bool × (List I) × (List I) × (List I) × Int × Int × (List En) × Bool × (List I) × (List I) × (List I) × Int × Int × Bool × (List I) × (List I) × (List I) × Int × Int × (List Int) × (List En) × (List Ac) × Bool × Int × Int × (List I))) : Option (List I) := iterO (fun x => st_flow_deed_gains_133_0_0 x.1 x.2.1 x.2.2.1 x.2.2.2.1 x.2.2.2.2.1 x.2.2.2.2.2.1 x.2.2.2.2.2.2.1 x.2.2.2.2.2.2.2.1 x.2.2.2.2.2.2.2.2.1 x.2.2.2.2.2.2.2.2.2.1 x.2.2.2.2.2.2.2.2.2.2.1 x.2.2.2.2.2.2.2.2.2.2.2.1 x.2.2.2.2.2.2.2.2.2.2.2.2.1 x.2.2.2.2.2.2.2.2.2.2.2.2.2.1 x.2.2.2.2.2.2.2.2.2.2.2.2.2.2.1 x.2.2.2.2.2.2.2.2.2.2.2.2.2.2.2.1 x.2.2.2.2.2.2.2.2.2.2.2.2.2.2.2.2.1 x.2.2.2.2.2.2.2.2.2.2.2.2.2.2.2.2.2.1 x.2.2.2.2.2.2.2.2.2.2.2.2.2.2.2.2.2.2.1 x.2.2.2.2.2.2.2.2.2.2.2.2.2.2.2.2.2.2.2.1 x.2.2.2.2.2.2.2.2.2.2.2.2.2.2.2.2.2.2.2.2.1 x.2.2.2.2.2.2.2.2.2.2.2.2.2.2.2.2.2.2.2.2.2.1 x.2.2.2.2.2.2.2.2.2.2.2.2.2.2.2.2.2.2.2.2.2.2.1 x.2.2.2.2.2.2.2.2.2.2.2.2.2.2.2.2.2.2.2.2.2.2.2.1 x.2.2.2.2.2.2.2.2.2.2.2.2.2.2.2.2.2.2.2.2.2.2.2.2.1 x.2.2.2.2.2.2.2.2.2.2.2.2.2.2.2.2.2.2.2.2.2.2.2.2.2.1 x.2.2.2.2.2.2.2.2.2.2.2.2.2.2.2.2.2.2.2.2.2.2.2.2.2.2.1 x.2.2.2.2.2.2.2.2.2.2.2.2.2.2.2.2.2.2.2.2.2.2.2.2.2.2.2.1 x.2.2.2.2.2.2.2.2.2.2.2.2.2.2.2.2.2.2.2.2.2.2.2.2.2.2.2.2.1 x.2.2.2.2.2.2.2.2.2.2.2.2.2.2.2.2.2.2.2.2.2.2.2.2.2.2.2.2.2.1 x.2.2.2.2.2.2.2.2.2.2.2.2.2.2.2.2.2.2.2.2.2.2.2.2.2.2.2.2.2.2.1 x.2.2.2.2.2.2.2.2.2.2.2.2.2.2.2.2.2.2.2.2.2.2.2.2.2.2.2.2.2.2.2.1 x.2.2.2.2.2.2.2.2.2.2.2.2.2.2.2.2.2.2.2.2.2.2.2.2.2.2.2.2.2.2.2.2.1 x.2.2.2.2.2.2.2.2.2.2.2.2.2.2.2.2.2.2.2.2.2.2.2.2.2.2.2.2.2.2.2.2.2.1 x.2.2.2.2.2.2.2.2.2.2.2.2.2.2.2.2.2.2.2.2.2.2.2.2.2.2.2.2.2.2.2.2.2.2.1 x.2.2.2.2.2.2.2.2.2.2.2.2.2.2.2.2.2.2.2.2.2.2.2.2.2.2.2.2.2.2.2.2.2.2.2.1 x.2.2.2.2.2.2.2.2.2.2.2.2.2.2.2.2.2.2.2.2.2.2.2.2.2.2.2.2.2.2.2.2.2.2.2.2.1 x.2.2.2.2.2.2.2.2.2.2.2.2.2.2.2.2.2.2.2.2.2.2.2.2.2.2.2.2.2.2.2.2.2.2.2.2.2.1 x.2.2.2.2.2.2.2.2.2.2.2.2.2.2.2.2.2.2.2.2.2.2.2.2.2.2.2.2.2.2.2.2.2.2.2.2.2.2.1 x.2.2.2.2.2.2.2.2.2.2.2.2.2.2.2.2.2.2.2.2.2.2.2.2.2.2.2.2.2.2.2.2.2.2.2.2.2.2.2.1 x.2.2.2.2.2.2.2.2.2.2.2.2.2.2.2.2.2.2.2.2.2.2.2.2.2.2.2.2.2.2.2.2.2.2.2.2.2.2.2.2) FUEL x
noncomputable def q_flow_deed_gains_133_0 : Nat → Tm → Prog (Nat × Tm) := (varP 0 (fun T h => (rdS s_flow_deed_gains_133_0_0 T h).map (fun (d : (((Int × (Int × (Int × (Int × (Int × (Int × (Int × (Int × (Int × ((List Int) × ((List Int) × (Int × ((List C) × (Int × (Int × (Bool × ((List I) × ((List I) × ((List I) × (Int × (Int × ((List En) × (Bool × ((List I) × ((List I) × ((List I) × (Int × (Int × (Bool × ((List I) × ((List I) × ((List I) × (Int × (Int × ((List Int) × ((List En) × ((List Ac) × Unit))))))))))))))))))))))))))))))))))))) × (Unit × (Bool × (Unit × (Int × (Int × Unit)))))) × ((List I) × Unit))) => ((d.1.1.1, d.1.1.2.1, d.1.1.2.2.1, d.1.1.2.2.2.1, d.1.1.2.2.2.2.1, d.1.1.2.2.2.2.2.1, d.1.1.2.2.2.2.2.2.1, d.1.1.2.2.2.2.2.2.2.1, d.1.1.2.2.2.2.2.2.2.2.1, d.1.1.2.2.2.2.2.2.2.2.2.1, d.1.1.2.2.2.2.2.2.2.2.2.2.1, d.1.1.2.2.2.2.2.2.2.2.2.2.2.1, d.1.1.2.2.2.2.2.2.2.2.2.2.2.2.1, d.1.1.2.2.2.2.2.2.2.2.2.2.2.2.2.1, d.1.1.2.2.2.2.2.2.2.2.2.2.2.2.2.2.1, d.1.1.2.2.2.2.2.2.2.2.2.2.2.2.2.2.2.1, d.1.1.2.2.2.2.2.2.2.2.2.2.2.2.2.2.2.2.1, d.1.1.2.2.2.2.2.2.2.2.2.2.2.2.2.2.2.2.2.1, d.1.1.2.2.2.2.2.2.2.2.2.2.2.2.2.2.2.2.2.2.1, d.1.1.2.2.2.2.2.2.2.2.2.2.2.2.2.2.2.2.2.2.2.1, d.1.1.2.2.2.2.2.2.2.2.2.2.2.2.2.2.2.2.2.2.2.2.1, d.1.1.2.2.2.2.2.2.2.2.2.2.2.2.2.2.2.2.2.2.2.2.2.1, d.1.1.2.2.2.2.2.2.2.2.2.2.2.2.2.2.2.2.2.2.2.2.2.2.1, d.1.1.2.2.2.2.2.2.2.2.2.2.2.2.2.2.2.2.2.2.2.2.2.2.2.1, d.1.1.2.2.2.2.2.2.2.2.2.2.2.2.2.2.2.2.2.2.2.2.2.2.2.2.1, d.1.1.2.2.2.2.2.2.2.2.2.2.2.2.2.2.2.2.2.2.2.2.2.2.2.2.2.1, d.1.1.2.2.2.2.2.2.2.2.2.2.2.2.2.2.2.2.2.2.2.2.2.2.2.2.2.2.1, d.1.1.2.2.2.2.2.2.2.2.2.2.2.2.2.2.2.2.2.2.2.2.2.2.2.2.2.2.2.1, d.1.1.2.2.2.2.2.2.2.2.2.2.2.2.2.2.2.2.2.2.2.2.2.2.2.2.2.2.2.2.1, d.1.1.2.2.2.2.2.2.2.2.2.2.2.2.2.2.2.2.2.2.2.2.2.2.2.2.2.2.2.2.2.1, d.1.1.2.2.2.2.2.2.2.2.2.2.2.2.2.2.2.2.2.2.2.2.2.2.2.2.2.2.2.2.2.2.1, d.1.1.2.2.2.2.2.2.2.2.2.2.2.2.2.2.2.2.2.2.2.2.2.2.2.2.2.2.2.2.2.2.2.1, d.1.1.2.2.2.2.2.2.2.2.2.2.2.2.2.2.2.2.2.2.2.2.2.2.2.2.2.2.2.2.2.2.2.2.1, d.1.1.2.2.2.2.2.2.2.2.2.2.2.2.2.2.2.2.2.2.2.2.2.2.2.2.2.2.2.2.2.2.2.2.2.1, d.1.1.2.2.2.2.2.2.2.2.2.2.2.2.2.2.2.2.2.2.2.2.2.2.2.2.2.2.2.2.2.2.2.2.2.2.1, d.1.1.2.2.2.2.2.2.2.2.2.2.2.2.2.2.2.2.2.2.2.2.2.2.2.2.2.2.2.2.2.2.2.2.2.2.2.1, d.1.1.2.2.2.2.2.2.2.2.2.2.2.2.2.2.2.2.2.2.2.2.2.2.2.2.2.2.2.2.2.2.2.2.2.2.2.2.1, d.1.2.2.1, d.1.2.2.2.2.1, d.1.2.2.2.2.2.1, d.2.1) : (Int × Int × Int × Int × Int × Int × Int × Int × Int × (List Int) × (List Int) × Int × (List C) × Int × Int × Bool × (List I) × (List I) × (List I) × Int × Int × (List En) × Bool × (List I) × (List I) × (List I) × Int × Int × Bool × (List I) × (List I) × (List I) × Int × Int × (List Int) × (List En) × (List Ac) × Bool × Int × Int × (List I))))) L_flow_deed_gains_133_0_0 (altE 2 x_flow_deed_gains_133_0_0_0 (fun (x : (List I)) => ((((), ()), (x, ())) : ((Unit × Unit) × ((List I) × Unit))))) (fun _ _ => .fail))
theorem ok_flow_deed_gains_133_0 : VarOk kp_flow_deed_gains_133_0 F_flow_deed_gains_133_0 q_flow_deed_gains_133_0 := (varX_ok (s := s_flow_deed_gains_133_0_0) (un := (fun (x : (Int × Int × Int × Int × Int × Int × Int × Int × Int × (List Int) × (List Int) × Int × (List C) × Int × Int × Bool × (List I) × (List I) × (List I) × Int × Int × (List En) × Bool × (List I) × (List I) × (List I) × Int × Int × Bool × (List I) × (List I) × (List I) × Int × Int × (List Int) × (List En) × (List Ac) × Bool × Int × Int × (List I))) => ((((x.1, x.2.1, x.2.2.1, x.2.2.2.1, x.2.2.2.2.1, x.2.2.2.2.2.1, x.2.2.2.2.2.2.1, x.2.2.2.2.2.2.2.1, x.2.2.2.2.2.2.2.2.1, x.2.2.2.2.2.2.2.2.2.1, x.2.2.2.2.2.2.2.2.2.2.1, x.2.2.2.2.2.2.2.2.2.2.2.1, x.2.2.2.2.2.2.2.2.2.2.2.2.1, x.2.2.2.2.2.2.2.2.2.2.2.2.2.1, x.2.2.2.2.2.2.2.2.2.2.2.2.2.2.1, x.2.2.2.2.2.2.2.2.2.2.2.2.2.2.2.1, x.2.2.2.2.2.2.2.2.2.2.2.2.2.2.2.2.1, x.2.2.2.2.2.2.2.2.2.2.2.2.2.2.2.2.2.1, x.2.2.2.2.2.2.2.2.2.2.2.2.2.2.2.2.2.2.1, x.2.2.2.2.2.2.2.2.2.2.2.2.2.2.2.2.2.2.2.1, x.2.2.2.2.2.2.2.2.2.2.2.2.2.2.2.2.2.2.2.2.1, x.2.2.2.2.2.2.2.2.2.2.2.2.2.2.2.2.2.2.2.2.2.1, x.2.2.2.2.2.2.2.2.2.2.2.2.2.2.2.2.2.2.2.2.2.2.1, x.2.2.2.2.2.2.2.2.2.2.2.2.2.2.2.2.2.2.2.2.2.2.2.1, x.2.2.2.2.2.2.2.2.2.2.2.2.2.2.2.2.2.2.2.2.2.2.2.2.1, x.2.2.2.2.2.2.2.2.2.2.2.2.2.2.2.2.2.2.2.2.2.2.2.2.2.1, x.2.2.2.2.2.2.2.2.2.2.2.2.2.2.2.2.2.2.2.2.2.2.2.2.2.2.1, x.2.2.2.2.2.2.2.2.2.2.2.2.2.2.2.2.2.2.2.2.2.2.2.2.2.2.2.1, x.2.2.2.2.2.2.2.2.2.2.2.2.2.2.2.2.2.2.2.2.2.2.2.2.2.2.2.2.1, x.2.2.2.2.2.2.2.2.2.2.2.2.2.2.2.2.2.2.2.2.2.2.2.2.2.2.2.2.2.1, x.2.2.2.2.2.2.2.2.2.2.2.2.2.2.2.2.2.2.2.2.2.2.2.2.2.2.2.2.2.2.1, x.2.2.2.2.2.2.2.2.2.2.2.2.2.2.2.2.2.2.2.2.2.2.2.2.2.2.2.2.2.2.2.1, x.2.2.2.2.2.2.2.2.2.2.2.2.2.2.2.2.2.2.2.2.2.2.2.2.2.2.2.2.2.2.2.2.1, x.2.2.2.2.2.2.2.2.2.2.2.2.2.2.2.2.2.2.2.2.2.2.2.2.2.2.2.2.2.2.2.2.2.1, x.2.2.2.2.2.2.2.2.2.2.2.2.2.2.2.2.2.2.2.2.2.2.2.2.2.2.2.2.2.2.2.2.2.2.1, x.2.2.2.2.2.2.2.2.2.2.2.2.2.2.2.2.2.2.2.2.2.2.2.2.2.2.2.2.2.2.2.2.2.2.2.1, x.2.2.2.2.2.2.2.2.2.2.2.2.2.2.2.2.2.2.2.2.2.2.2.2.2.2.2.2.2.2.2.2.2.2.2.2.1, ()), (), x.2.2.2.2.2.2.2.2.2.2.2.2.2.2.2.2.2.2.2.2.2.2.2.2.2.2.2.2.2.2.2.2.2.2.2.2.2.1, (), x.2.2.2.2.2.2.2.2.2.2.2.2.2.2.2.2.2.2.2.2.2.2.2.2.2.2.2.2.2.2.2.2.2.2.2.2.2.2.1, x.2.2.2.2.2.2.2.2.2.2.2.2.2.2.2.2.2.2.2.2.2.2.2.2.2.2.2.2.2.2.2.2.2.2.2.2.2.2.2.1, ()), (x.2.2.2.2.2.2.2.2.2.2.2.2.2.2.2.2.2.2.2.2.2.2.2.2.2.2.2.2.2.2.2.2.2.2.2.2.2.2.2.2, ())) : (((Int × (Int × (Int × (Int × (Int × (Int × (Int × (Int × (Int × ((List Int) × ((List Int) × (Int × ((List C) × (Int × (Int × (Bool × ((List I) × ((List I) × ((List I) × (Int × (Int × ((List En) × (Bool × ((List I) × ((List I) × ((List I) × (Int × (Int × (Bool × ((List I) × ((List I) × ((List I) × (Int × (Int × ((List Int) × ((List En) × ((List Ac) × Unit))))))))))))))))))))))))))))))))))))) × (Unit × (Bool × (Unit × (Int × (Int × Unit)))))) × ((List I) × Unit))))) (by rfl) (fun _ => rfl) (getE_ok (s := x_flow_deed_gains_133_0_0_0) (un := (fun (x : (List I)) => ((((), ()), (x, ())) : ((Unit × Unit) × ((List I) × Unit))))) (by rfl) (fun _ => rfl)) (step := fun x => st_flow_deed_gains_133_0_0 x.1 x.2.1 x.2.2.1 x.2.2.2.1 x.2.2.2.2.1 x.2.2.2.2.2.1 x.2.2.2.2.2.2.1 x.2.2.2.2.2.2.2.1 x.2.2.2.2.2.2.2.2.1 x.2.2.2.2.2.2.2.2.2.1 x.2.2.2.2.2.2.2.2.2.2.1 x.2.2.2.2.2.2.2.2.2.2.2.1 x.2.2.2.2.2.2.2.2.2.2.2.2.1 x.2.2.2.2.2.2.2.2.2.2.2.2.2.1 x.2.2.2.2.2.2.2.2.2.2.2.2.2.2.1 x.2.2.2.2.2.2.2.2.2.2.2.2.2.2.2.1 x.2.2.2.2.2.2.2.2.2.2.2.2.2.2.2.2.1 x.2.2.2.2.2.2.2.2.2.2.2.2.2.2.2.2.2.1 x.2.2.2.2.2.2.2.2.2.2.2.2.2.2.2.2.2.2.1 x.2.2.2.2.2.2.2.2.2.2.2.2.2.2.2.2.2.2.2.1 x.2.2.2.2.2.2.2.2.2.2.2.2.2.2.2.2.2.2.2.2.1 x.2.2.2.2.2.2.2.2.2.2.2.2.2.2.2.2.2.2.2.2.2.1 x.2.2.2.2.2.2.2.2.2.2.2.2.2.2.2.2.2.2.2.2.2.2.1 x.2.2.2.2.2.2.2.2.2.2.2.2.2.2.2.2.2.2.2.2.2.2.2.1 x.2.2.2.2.2.2.2.2.2.2.2.2.2.2.2.2.2.2.2.2.2.2.2.2.1 x.2.2.2.2.2.2.2.2.2.2.2.2.2.2.2.2.2.2.2.2.2.2.2.2.2.1 x.2.2.2.2.2.2.2.2.2.2.2.2.2.2.2.2.2.2.2.2.2.2.2.2.2.2.1 x.2.2.2.2.2.2.2.2.2.2.2.2.2.2.2.2.2.2.2.2.2.2.2.2.2.2.2.1 x.2.2.2.2.2.2.2.2.2.2.2.2.2.2.2.2.2.2.2.2.2.2.2.2.2.2.2.2.1 x.2.2.2.2.2.2.2.2.2.2.2.2.2.2.2.2.2.2.2.2.2.2.2.2.2.2.2.2.2.1 x.2.2.2.2.2.2.2.2.2.2.2.2.2.2.2.2.2.2.2.2.2.2.2.2.2.2.2.2.2.2.1 x.2.2.2.2.2.2.2.2.2.2.2.2.2.2.2.2.2.2.2.2.2.2.2.2.2.2.2.2.2.2.2.1 x.2.2.2.2.2.2.2.2.2.2.2.2.2.2.2.2.2.2.2.2.2.2.2.2.2.2.2.2.2.2.2.2.1 x.2.2.2.2.2.2.2.2.2.2.2.2.2.2.2.2.2.2.2.2.2.2.2.2.2.2.2.2.2.2.2.2.2.1 x.2.2.2.2.2.2.2.2.2.2.2.2.2.2.2.2.2.2.2.2.2.2.2.2.2.2.2.2.2.2.2.2.2.2.1 x.2.2.2.2.2.2.2.2.2.2.2.2.2.2.2.2.2.2.2.2.2.2.2.2.2.2.2.2.2.2.2.2.2.2.2.1 x.2.2.2.2.2.2.2.2.2.2.2.2.2.2.2.2.2.2.2.2.2.2.2.2.2.2.2.2.2.2.2.2.2.2.2.2.1 x.2.2.2.2.2.2.2.2.2.2.2.2.2.2.2.2.2.2.2.2.2.2.2.2.2.2.2.2.2.2.2.2.2.2.2.2.2.1 x.2.2.2.2.2.2.2.2.2.2.2.2.2.2.2.2.2.2.2.2.2.2.2.2.2.2.2.2.2.2.2.2.2.2.2.2.2.2.1 x.2.2.2.2.2.2.2.2.2.2.2.2.2.2.2.2.2.2.2.2.2.2.2.2.2.2.2.2.2.2.2.2.2.2.2.2.2.2.2.1 x.2.2.2.2.2.2.2.2.2.2.2.2.2.2.2.2.2.2.2.2.2.2.2.2.2.2.2.2.2.2.2.2.2.2.2.2.2.2.2.2) (fun x => rn_flow_deed_gains_133_0_0 x.1 x.2.1 x.2.2.1 x.2.2.2.1 x.2.2.2.2.1 x.2.2.2.2.2.1 x.2.2.2.2.2.2.1 x.2.2.2.2.2.2.2.1 x.2.2.2.2.2.2.2.2.1 x.2.2.2.2.2.2.2.2.2.1 x.2.2.2.2.2.2.2.2.2.2.1 x.2.2.2.2.2.2.2.2.2.2.2.1 x.2.2.2.2.2.2.2.2.2.2.2.2.1 x.2.2.2.2.2.2.2.2.2.2.2.2.2.1 x.2.2.2.2.2.2.2.2.2.2.2.2.2.2.1 x.2.2.2.2.2.2.2.2.2.2.2.2.2.2.2.1 x.2.2.2.2.2.2.2.2.2.2.2.2.2.2.2.2.1 x.2.2.2.2.2.2.2.2.2.2.2.2.2.2.2.2.2.1 x.2.2.2.2.2.2.2.2.2.2.2.2.2.2.2.2.2.2.1 x.2.2.2.2.2.2.2.2.2.2.2.2.2.2.2.2.2.2.2.1 x.2.2.2.2.2.2.2.2.2.2.2.2.2.2.2.2.2.2.2.2.1 x.2.2.2.2.2.2.2.2.2.2.2.2.2.2.2.2.2.2.2.2.2.1 x.2.2.2.2.2.2.2.2.2.2.2.2.2.2.2.2.2.2.2.2.2.2.1 x.2.2.2.2.2.2.2.2.2.2.2.2.2.2.2.2.2.2.2.2.2.2.2.1 x.2.2.2.2.2.2.2.2.2.2.2.2.2.2.2.2.2.2.2.2.2.2.2.2.1 x.2.2.2.2.2.2.2.2.2.2.2.2.2.2.2.2.2.2.2.2.2.2.2.2.2.1 x.2.2.2.2.2.2.2.2.2.2.2.2.2.2.2.2.2.2.2.2.2.2.2.2.2.2.1 x.2.2.2.2.2.2.2.2.2.2.2.2.2.2.2.2.2.2.2.2.2.2.2.2.2.2.2.1 x.2.2.2.2.2.2.2.2.2.2.2.2.2.2.2.2.2.2.2.2.2.2.2.2.2.2.2.2.1 x.2.2.2.2.2.2.2.2.2.2.2.2.2.2.2.2.2.2.2.2.2.2.2.2.2.2.2.2.2.1 x.2.2.2.2.2.2.2.2.2.2.2.2.2.2.2.2.2.2.2.2.2.2.2.2.2.2.2.2.2.2.1 x.2.2.2.2.2.2.2.2.2.2.2.2.2.2.2.2.2.2.2.2.2.2.2.2.2.2.2.2.2.2.2.1 x.2.2.2.2.2.2.2.2.2.2.2.2.2.2.2.2.2.2.2.2.2.2.2.2.2.2.2.2.2.2.2.2.1 x.2.2.2.2.2.2.2.2.2.2.2.2.2.2.2.2.2.2.2.2.2.2.2.2.2.2.2.2.2.2.2.2.2.1 x.2.2.2.2.2.2.2.2.2.2.2.2.2.2.2.2.2.2.2.2.2.2.2.2.2.2.2.2.2.2.2.2.2.2.1 x.2.2.2.2.2.2.2.2.2.2.2.2.2.2.2.2.2.2.2.2.2.2.2.2.2.2.2.2.2.2.2.2.2.2.2.1 x.2.2.2.2.2.2.2.2.2.2.2.2.2.2.2.2.2.2.2.2.2.2.2.2.2.2.2.2.2.2.2.2.2.2.2.2.1 x.2.2.2.2.2.2.2.2.2.2.2.2.2.2.2.2.2.2.2.2.2.2.2.2.2.2.2.2.2.2.2.2.2.2.2.2.2.1 x.2.2.2.2.2.2.2.2.2.2.2.2.2.2.2.2.2.2.2.2.2.2.2.2.2.2.2.2.2.2.2.2.2.2.2.2.2.2.1 x.2.2.2.2.2.2.2.2.2.2.2.2.2.2.2.2.2.2.2.2.2.2.2.2.2.2.2.2.2.2.2.2.2.2.2.2.2.2.2.1 x.2.2.2.2.2.2.2.2.2.2.2.2.2.2.2.2.2.2.2.2.2.2.2.2.2.2.2.2.2.2.2.2.2.2.2.2.2.2.2.2) (fun _ _ e => ⟨_, e⟩) (altE_ok 2 x_flow_deed_gains_133_0_0_0 (fun (x : (List I)) => ((((), ()), (x, ())) : ((Unit × Unit) × ((List I) × Unit))))) (VarOk.fail _ _))
noncomputable def lpI_flow_deed_gains_133_0 (base : Nat) (T : Tm) : Prog (Nat × Tm) := .norm base (kp_flow_deed_gains_133_0 0) T (q_flow_deed_gains_133_0 base)
theorem sndI_flow_deed_gains_133_0 : SoundC Try.prog 47 (.loop (bodyX 133 0)) lpI_flow_deed_gains_133_0 := loopK_sound (cx := cx_flow_deed_gains0) (cal := evF cx_flow_deed_gains0 keeps 8) (kp := keeps 133) (tabOk_of tab_ok) (cmpsOk_of tab_ok cmps_ok) cal_flow_deed_gains0 mixed (hl_of (g := 133) (b := 0) in_flow_deed_gains0 (by kernel_rfl) (by kernel_rfl)) ok_flow_deed_gains_133_0
noncomputable def lpL_flow_deed_gains_133_0 : Nat → Tm → Prog (Nat × Tm) := lpI_flow_deed_gains_133_0
theorem sndL_flow_deed_gains_133_0 : SoundC Try.prog 47 (.loop (bodyX 133 0)) lpL_flow_deed_gains_133_0 := sndI_flow_deed_gains_133_0
noncomputable def lp_flow_deed_gains : Nat → Nat → Option (Nat → Tm → Prog (Nat × Tm))
  | 133, 0 => some lpL_flow_deed_gains_133_0
  | _, _ => none
noncomputable def cx_flow_deed_gains : Ctx := { tab := tab, spec := sp_flow_deed_gains, inl := inl, lps := lp_flow_deed_gains, fuel := 40 }
theorem in_flow_deed_gains : InlOk Try.prog cx_flow_deed_gains := ⟨inl_ok, fun g fn c hg hb q hq p hp => by
  change lp_flow_deed_gains g q.1 = some p at hp
  change inl g = some fn at hg
  generalize hq1 : q.1 = b at hp
  unfold lp_flow_deed_gains at hp
  split at hp
  · cases hp; exact lps_case (inl := inl) hg hb hq hq1 (by kernel_rfl) (by kernel_rfl) sndL_flow_deed_gains_133_0
  · cases hp⟩
theorem cal_flow_deed_gains (g : Nat) : SoundA Try.prog g (evF cx_flow_deed_gains keeps 8 g) := evF_sound (tabOk_of tab_ok) (cmpsOk_of tab_ok cmps_ok) mixed in_flow_deed_gains hsp_flow_deed_gains keeps 8 g
noncomputable def g_flow_deed_gains (a0 : Int) (a1 : Int) (a2 : Int) (a3 : Int) (a4 : Int) (a5 : Int) (a6 : Int) (a7 : Int) (a8 : Int) (a9 : (List Int)) (a10 : (List Int)) (a11 : Int) (a12 : (List C)) (a13 : Int) (a14 : Int) (a15 : Bool) (a16 : (List I)) (a17 : (List I)) (a18 : (List I)) (a19 : Int) (a20 : Int) (a21 : (List En)) (a22 : Bool) (a23 : (List I)) (a24 : (List I)) (a25 : (List I)) (a26 : Int) (a27 : Int) (a28 : Bool) (a29 : (List I)) (a30 : (List I)) (a31 : (List I)) (a32 : Int) (a33 : Int) (a34 : (List Int)) (a35 : (List En)) (a36 : (List Ac)) (a37 : (List I)) (a38 : Bool) : Option (List I) :=
  bif Decidable.decide (((List.length (α := Go.Proofs.Ytbdcblpjemmipaa.Ex.I) []) + a37.length + 1) * 16 ≤ Go.Proofs.Ytbdcblpjemmipaa.Ex.lim) then
 Go.Proofs.Ytbdcblpjemmipaa.Ex.optC
 (L_flow_deed_gains_133_0_0
 (a0, a1, a2, a3, a4, a5, a6, a7, a8, a9, a10, a11, a12, a13, a14, a15, a16, a17, a18, a19, a20, a21, a22, a23, a24, a25, a26, a27, a28, a29, a30, a31, a32, a33, a34, a35, a36, a38,
 (↑([] ++ a37).length : Int), 0, [] ++ a37))
 Option.none fun d41 ↦ Option.some d41
 else Option.none
theorem raw_flow_deed_gains (a0 : Int) (a1 : Int) (a2 : Int) (a3 : Int) (a4 : Int) (a5 : Int) (a6 : Int) (a7 : Int) (a8 : Int) (a9 : (List Int)) (a10 : (List Int)) (a11 : Int) (a12 : (List C)) (a13 : Int) (a14 : Int) (a15 : Bool) (a16 : (List I)) (a17 : (List I)) (a18 : (List I)) (a19 : Int) (a20 : Int) (a21 : (List En)) (a22 : Bool) (a23 : (List I)) (a24 : (List I)) (a25 : (List I)) (a26 : Int) (a27 : Int) (a28 : Bool) (a29 : (List I)) (a30 : (List I)) (a31 : (List I)) (a32 : Int) (a33 : Int) (a34 : (List Int)) (a35 : (List En)) (a36 : (List Ac)) (a37 : (List I)) (a38 : Bool) : evRX cx_flow_deed_gains keeps 8 133 ash_flow_deed_gains tI (((a0, a1, a2, a3, a4, a5, a6, a7, a8, a9, a10, a11, a12, a13, a14, a15, a16, a17, a18, a19, a20, a21, a22, a23, a24, a25, a26, a27, a28, a29, a30, a31, a32, a33, a34, a35, a36, ()), a37, a38, ()) : ((Int × (Int × (Int × (Int × (Int × (Int × (Int × (Int × (Int × ((List Int) × ((List Int) × (Int × ((List C) × (Int × (Int × (Bool × ((List I) × ((List I) × ((List I) × (Int × (Int × ((List En) × (Bool × ((List I) × ((List I) × ((List I) × (Int × (Int × (Bool × ((List I) × ((List I) × ((List I) × (Int × (Int × ((List Int) × ((List En) × ((List Ac) × Unit))))))))))))))))))))))))))))))))))))) × ((List I) × (Bool × Unit)))) = g_flow_deed_gains a0 a1 a2 a3 a4 a5 a6 a7 a8 a9 a10 a11 a12 a13 a14 a15 a16 a17 a18 a19 a20 a21 a22 a23 a24 a25 a26 a27 a28 a29 a30 a31 a32 a33 a34 a35 a36 a37 a38 := by kernel_rfl
noncomputable def G_flow_deed_gains (x : ((Int × (Int × (Int × (Int × (Int × (Int × (Int × (Int × (Int × ((List Int) × ((List Int) × (Int × ((List C) × (Int × (Int × (Bool × ((List I) × ((List I) × ((List I) × (Int × (Int × ((List En) × (Bool × ((List I) × ((List I) × ((List I) × (Int × (Int × (Bool × ((List I) × ((List I) × ((List I) × (Int × (Int × ((List Int) × ((List En) × ((List Ac) × Unit))))))))))))))))))))))))))))))))))))) × ((List I) × (Bool × Unit)))) : Option (List I) := g_flow_deed_gains x.1.1 x.1.2.1 x.1.2.2.1 x.1.2.2.2.1 x.1.2.2.2.2.1 x.1.2.2.2.2.2.1 x.1.2.2.2.2.2.2.1 x.1.2.2.2.2.2.2.2.1 x.1.2.2.2.2.2.2.2.2.1 x.1.2.2.2.2.2.2.2.2.2.1 x.1.2.2.2.2.2.2.2.2.2.2.1 x.1.2.2.2.2.2.2.2.2.2.2.2.1 x.1.2.2.2.2.2.2.2.2.2.2.2.2.1 x.1.2.2.2.2.2.2.2.2.2.2.2.2.2.1 x.1.2.2.2.2.2.2.2.2.2.2.2.2.2.2.1 x.1.2.2.2.2.2.2.2.2.2.2.2.2.2.2.2.1 x.1.2.2.2.2.2.2.2.2.2.2.2.2.2.2.2.2.1 x.1.2.2.2.2.2.2.2.2.2.2.2.2.2.2.2.2.2.1 x.1.2.2.2.2.2.2.2.2.2.2.2.2.2.2.2.2.2.2.1 x.1.2.2.2.2.2.2.2.2.2.2.2.2.2.2.2.2.2.2.2.1 x.1.2.2.2.2.2.2.2.2.2.2.2.2.2.2.2.2.2.2.2.2.1 x.1.2.2.2.2.2.2.2.2.2.2.2.2.2.2.2.2.2.2.2.2.2.1 x.1.2.2.2.2.2.2.2.2.2.2.2.2.2.2.2.2.2.2.2.2.2.2.1 x.1.2.2.2.2.2.2.2.2.2.2.2.2.2.2.2.2.2.2.2.2.2.2.2.1 x.1.2.2.2.2.2.2.2.2.2.2.2.2.2.2.2.2.2.2.2.2.2.2.2.2.1 x.1.2.2.2.2.2.2.2.2.2.2.2.2.2.2.2.2.2.2.2.2.2.2.2.2.2.1 x.1.2.2.2.2.2.2.2.2.2.2.2.2.2.2.2.2.2.2.2.2.2.2.2.2.2.2.1 x.1.2.2.2.2.2.2.2.2.2.2.2.2.2.2.2.2.2.2.2.2.2.2.2.2.2.2.2.1 x.1.2.2.2.2.2.2.2.2.2.2.2.2.2.2.2.2.2.2.2.2.2.2.2.2.2.2.2.2.1 x.1.2.2.2.2.2.2.2.2.2.2.2.2.2.2.2.2.2.2.2.2.2.2.2.2.2.2.2.2.2.1 x.1.2.2.2.2.2.2.2.2.2.2.2.2.2.2.2.2.2.2.2.2.2.2.2.2.2.2.2.2.2.2.1 x.1.2.2.2.2.2.2.2.2.2.2.2.2.2.2.2.2.2.2.2.2.2.2.2.2.2.2.2.2.2.2.2.1 x.1.2.2.2.2.2.2.2.2.2.2.2.2.2.2.2.2.2.2.2.2.2.2.2.2.2.2.2.2.2.2.2.2.1 x.1.2.2.2.2.2.2.2.2.2.2.2.2.2.2.2.2.2.2.2.2.2.2.2.2.2.2.2.2.2.2.2.2.2.1 x.1.2.2.2.2.2.2.2.2.2.2.2.2.2.2.2.2.2.2.2.2.2.2.2.2.2.2.2.2.2.2.2.2.2.2.1 x.1.2.2.2.2.2.2.2.2.2.2.2.2.2.2.2.2.2.2.2.2.2.2.2.2.2.2.2.2.2.2.2.2.2.2.2.1 x.1.2.2.2.2.2.2.2.2.2.2.2.2.2.2.2.2.2.2.2.2.2.2.2.2.2.2.2.2.2.2.2.2.2.2.2.2.1 x.2.1 x.2.2.1
noncomputable def con_flow_deed_gains : List AV → Prog AV := conR false ash_flow_deed_gains tI G_flow_deed_gains
theorem snd_flow_deed_gains : SoundA Try.prog 133 con_flow_deed_gains := conR_sound (cal_flow_deed_gains 133) false (by rfl) (fun x r e => (evRX_eq _ _ _ _ _ _ _).trans ((raw_flow_deed_gains x.1.1 x.1.2.1 x.1.2.2.1 x.1.2.2.2.1 x.1.2.2.2.2.1 x.1.2.2.2.2.2.1 x.1.2.2.2.2.2.2.1 x.1.2.2.2.2.2.2.2.1 x.1.2.2.2.2.2.2.2.2.1 x.1.2.2.2.2.2.2.2.2.2.1 x.1.2.2.2.2.2.2.2.2.2.2.1 x.1.2.2.2.2.2.2.2.2.2.2.2.1 x.1.2.2.2.2.2.2.2.2.2.2.2.2.1 x.1.2.2.2.2.2.2.2.2.2.2.2.2.2.1 x.1.2.2.2.2.2.2.2.2.2.2.2.2.2.2.1 x.1.2.2.2.2.2.2.2.2.2.2.2.2.2.2.2.1 x.1.2.2.2.2.2.2.2.2.2.2.2.2.2.2.2.2.1 x.1.2.2.2.2.2.2.2.2.2.2.2.2.2.2.2.2.2.1 x.1.2.2.2.2.2.2.2.2.2.2.2.2.2.2.2.2.2.2.1 x.1.2.2.2.2.2.2.2.2.2.2.2.2.2.2.2.2.2.2.2.1 x.1.2.2.2.2.2.2.2.2.2.2.2.2.2.2.2.2.2.2.2.2.1 x.1.2.2.2.2.2.2.2.2.2.2.2.2.2.2.2.2.2.2.2.2.2.1 x.1.2.2.2.2.2.2.2.2.2.2.2.2.2.2.2.2.2.2.2.2.2.2.1 x.1.2.2.2.2.2.2.2.2.2.2.2.2.2.2.2.2.2.2.2.2.2.2.2.1 x.1.2.2.2.2.2.2.2.2.2.2.2.2.2.2.2.2.2.2.2.2.2.2.2.2.1 x.1.2.2.2.2.2.2.2.2.2.2.2.2.2.2.2.2.2.2.2.2.2.2.2.2.2.1 x.1.2.2.2.2.2.2.2.2.2.2.2.2.2.2.2.2.2.2.2.2.2.2.2.2.2.2.1 x.1.2.2.2.2.2.2.2.2.2.2.2.2.2.2.2.2.2.2.2.2.2.2.2.2.2.2.2.1 x.1.2.2.2.2.2.2.2.2.2.2.2.2.2.2.2.2.2.2.2.2.2.2.2.2.2.2.2.2.1 x.1.2.2.2.2.2.2.2.2.2.2.2.2.2.2.2.2.2.2.2.2.2.2.2.2.2.2.2.2.2.1 x.1.2.2.2.2.2.2.2.2.2.2.2.2.2.2.2.2.2.2.2.2.2.2.2.2.2.2.2.2.2.2.1 x.1.2.2.2.2.2.2.2.2.2.2.2.2.2.2.2.2.2.2.2.2.2.2.2.2.2.2.2.2.2.2.2.1 x.1.2.2.2.2.2.2.2.2.2.2.2.2.2.2.2.2.2.2.2.2.2.2.2.2.2.2.2.2.2.2.2.2.1 x.1.2.2.2.2.2.2.2.2.2.2.2.2.2.2.2.2.2.2.2.2.2.2.2.2.2.2.2.2.2.2.2.2.2.1 x.1.2.2.2.2.2.2.2.2.2.2.2.2.2.2.2.2.2.2.2.2.2.2.2.2.2.2.2.2.2.2.2.2.2.2.1 x.1.2.2.2.2.2.2.2.2.2.2.2.2.2.2.2.2.2.2.2.2.2.2.2.2.2.2.2.2.2.2.2.2.2.2.2.1 x.1.2.2.2.2.2.2.2.2.2.2.2.2.2.2.2.2.2.2.2.2.2.2.2.2.2.2.2.2.2.2.2.2.2.2.2.2.1 x.2.1 x.2.2.1).trans e)) (.inr (by rfl))
end Go.Proofs.Ytbdcblpjemmipaa.Ex

/- meddler/held.With: what it makes of data. -/
namespace Go.Proofs.Ytbdcblpjemmipaa.Ex
open Go.Proofs Go.Proofs.Ytbdcblpjemmipaa
set_option maxRecDepth 100000
set_option maxHeartbeats 2000000
set_option linter.unusedVariables false
set_option linter.unusedSimpArgs false
def ash_held_With : List Sh := [.dat (.int .i64), .dat (.sl (.int .i64))]
noncomputable def sp_held_With : Nat → Option (List AV → Prog AV)
  | 91 => some (con_held_bits)
  | _ => none
theorem hsp_held_With : ∀ g p, sp_held_With g = some p → SoundA Try.prog g p := by
  intro g p h
  unfold sp_held_With at h
  split at h
  · cases h; exact snd_held_bits
  · cases h
noncomputable def cx_held_With : Ctx := { tab := tab, spec := sp_held_With, inl := inl, lps := fun _ _ => none, fuel := 40 }
theorem in_held_With : InlOk Try.prog cx_held_With := ⟨inl_ok, fun _ _ _ _ _ _ _ _ h => nomatch h⟩
theorem cal_held_With (g : Nat) : SoundA Try.prog g (evF cx_held_With keeps 8 g) := evF_sound (tabOk_of tab_ok) (cmpsOk_of tab_ok cmps_ok) mixed in_held_With hsp_held_With keeps 8 g
noncomputable def g_held_With (a0 : Int) (a1 : (List Int)) : Option Int :=
  Go.Proofs.Ytbdcblpjemmipaa.Ex.optC (Go.Proofs.Ytbdcblpjemmipaa.Ex.G_held_bits (a1, ())) Option.none fun d3 ↦ Option.some (Go.IntKind.i64.wrap (↑(BitVec.ofInt Go.IntKind.i64.bits a0 ||| BitVec.ofInt Go.IntKind.i64.bits d3).toNat : Int))
theorem raw_held_With (a0 : Int) (a1 : (List Int)) : evGX cx_held_With keeps 8 134 ash_held_With (.dat (.int .i64)) ((a0, a1, ()) : (Int × ((List Int) × Unit))) = g_held_With a0 a1 := by kernel_rfl
noncomputable def G_held_With (x : (Int × ((List Int) × Unit))) : Option Int := g_held_With x.1 x.2.1
noncomputable def con_held_With : List AV → Prog AV := conP true ash_held_With (.dat (.int .i64)) G_held_With
theorem snd_held_With : SoundA Try.prog 134 con_held_With := conP_sound (cal_held_With 134) true (by rfl) (by rfl) (fun x r e => (evGX_eq _ _ _ _ _ _ _).trans ((raw_held_With x.1 x.2.1).trans e)) (.inl rfl)
end Go.Proofs.Ytbdcblpjemmipaa.Ex

/- meddler/itv.Leq: what it makes of data. -/
namespace Go.Proofs.Ytbdcblpjemmipaa.Ex
open Go.Proofs Go.Proofs.Ytbdcblpjemmipaa
set_option maxRecDepth 100000
set_option maxHeartbeats 2000000
set_option linter.unusedVariables false
set_option linter.unusedSimpArgs false
def ash_itv_Leq : List Sh := [.dat tI, .dat tI]
noncomputable def sp_itv_Leq : Nat → Option (List AV → Prog AV)
  | 92 => some (con_itv_Empty)
  | _ => none
theorem hsp_itv_Leq : ∀ g p, sp_itv_Leq g = some p → SoundA Try.prog g p := by
  intro g p h
  unfold sp_itv_Leq at h
  split at h
  · cases h; exact snd_itv_Empty
  · cases h
noncomputable def cx_itv_Leq : Ctx := { tab := tab, spec := sp_itv_Leq, inl := inl, lps := fun _ _ => none, fuel := 40 }
theorem in_itv_Leq : InlOk Try.prog cx_itv_Leq := ⟨inl_ok, fun _ _ _ _ _ _ _ _ h => nomatch h⟩
theorem cal_itv_Leq (g : Nat) : SoundA Try.prog g (evF cx_itv_Leq keeps 8 g) := evF_sound (tabOk_of tab_ok) (cmpsOk_of tab_ok cmps_ok) mixed in_itv_Leq hsp_itv_Leq keeps 8 g
noncomputable def g_itv_Leq (a0 : I) (a1 : I) : Option Bool :=
  bif Decidable.decide (a0.fst > a0.snd) then Option.some Bool.true else bif Decidable.decide (a0.fst ≥ a1.fst) then Option.some (Decidable.decide (a0.snd ≤ a1.snd)) else Option.some Bool.false
theorem raw_itv_Leq (a0 : I) (a1 : I) : evGX cx_itv_Leq keeps 8 61 ash_itv_Leq (.dat .bool) ((a0, a1, ()) : (I × (I × Unit))) = g_itv_Leq a0 a1 := by kernel_rfl
noncomputable def G_itv_Leq (x : (I × (I × Unit))) : Option Bool := g_itv_Leq x.1 x.2.1
noncomputable def con_itv_Leq : List AV → Prog AV := conP true ash_itv_Leq (.dat .bool) G_itv_Leq
theorem snd_itv_Leq : SoundA Try.prog 61 con_itv_Leq := conP_sound (cal_itv_Leq 61) true (by rfl) (by rfl) (fun x r e => (evGX_eq _ _ _ _ _ _ _).trans ((raw_itv_Leq x.1 x.2.1).trans e)) (.inl rfl)
end Go.Proofs.Ytbdcblpjemmipaa.Ex

/- meddler/itv.quotients: what it makes of data. -/
namespace Go.Proofs.Ytbdcblpjemmipaa.Ex
open Go.Proofs Go.Proofs.Ytbdcblpjemmipaa
set_option maxRecDepth 100000
set_option maxHeartbeats 2000000
set_option linter.unusedVariables false
set_option linter.unusedSimpArgs false
def ash_itv_quotients : List Sh := [.dat tI, .dat tI]
def kp_itv_quotients_149_0 : Nat → List Nat := fun c => bif c.beq 0 then [2, 3, 4, 6, 7, 15, 16, 17] else [4, 6, 7]
noncomputable def sp_itv_quotients : Nat → Option (List AV → Prog AV)
  | 89 => some (con_itv_None)
  | 132 => some (con_itv_Meet)
  | 92 => some (con_itv_Empty)
  | 102 => some (con_itv_All)
  | 55 => some (con_itv_Join)
  | 61 => some (con_itv_Leq)
  | _ => none
theorem hsp_itv_quotients : ∀ g p, sp_itv_quotients g = some p → SoundA Try.prog g p := by
  intro g p h
  unfold sp_itv_quotients at h
  split at h
  · cases h; exact snd_itv_None
  · cases h; exact snd_itv_Meet
  · cases h; exact snd_itv_Empty
  · cases h; exact snd_itv_All
  · cases h; exact snd_itv_Join
  · cases h; exact snd_itv_Leq
  · cases h
noncomputable def cx_itv_quotients0 : Ctx := { tab := tab, spec := sp_itv_quotients, inl := inl, lps := fun _ _ => none, fuel := 40 }
theorem in_itv_quotients0 : InlOk Try.prog cx_itv_quotients0 := ⟨inl_ok, fun _ _ _ _ _ _ _ _ h => nomatch h⟩
theorem cal_itv_quotients0 (g : Nat) : SoundA Try.prog g (evF cx_itv_quotients0 keeps 8 g) := evF_sound (tabOk_of tab_ok) (cmpsOk_of tab_ok cmps_ok) mixed in_itv_quotients0 hsp_itv_quotients keeps 8 g
noncomputable def F_itv_quotients_149_0 (base : Nat) : Tm → Prog (Nat × Tm) := evC cx_itv_quotients0 (evF cx_itv_quotients0 keeps 8) ⟨149, 46, keeps 149, base⟩ 0 (bodyX 149 0)
def s_itv_quotients_149_0_0 : StS := ⟨[(2, .ptr 0 0), (3, .ptr 1 0), (4, .ptr 2 0), (6, .ptr 3 0), (7, .bool), (15, .row 4), (16, .int .i64), (17, .int .i64)], [(0, .box [.int .i64, .int .i64]), (1, .box [.int .i64, .int .i64]), (2, .box [.int .i64, .int .i64]), (3, .box [.int .i64, .int .i64]), (4, .row tI)], 5⟩
def x_itv_quotients_149_0_0_0 : StS := ⟨[(4, .ptr 0 0), (6, .ptr 1 0), (7, .bool)], [(0, .box [.int .i64, .int .i64]), (1, .box [.int .i64, .int .i64])], 2⟩
noncomputable def st_itv_quotients_149_0_0 (s7 : Bool) (s16 : Int) (s17 : Int) (b0 : Int) (b0_1 : Int) (b1 : Int) (b1_1 : Int) (b2 : Int) (b2_1 : Int) (b3 : Int) (b3_1 : Int) (b4 : (List I)) : Option ((Bool × Int × Int × Int × Int × Int × Int × Int × Int × Int × Int × (List I)) ⊕ (Bool × Int × Int × Int × Int)) :=
  bif Decidable.decide (s17 < s16) then
 bif Decidable.decide (0 ≤ s17) then
 Go.Proofs.Ytbdcblpjemmipaa.Ex.optC b4[s17.toNat]? Option.none fun d14 ↦
 Go.Proofs.Ytbdcblpjemmipaa.Ex.optC b4[s17.toNat]? Option.none fun d15 ↦
 Go.Proofs.Ytbdcblpjemmipaa.Ex.optC (Go.Proofs.Ytbdcblpjemmipaa.Ex.G_itv_Meet ((b1, b1_1), d15, ())) Option.none fun d16 ↦
 bif !Decidable.decide (d16.fst > d16.snd) then
 bif Decidable.decide (d16.fst = 0) then Option.none
 else
 bif Decidable.decide (d16.snd = 0) then Option.none
 else
 bif Decidable.decide (d16.fst = 0) then Option.none
 else
 bif Decidable.decide (d16.snd = 0) then Option.none
 else
 Go.Proofs.Ytbdcblpjemmipaa.Ex.optC
 (Go.Proofs.Ytbdcblpjemmipaa.Ex.G_itv_Meet
 ((if
 Go.IntKind.i64.wrap (b0_1.tdiv d16.snd) <
 if
 Go.IntKind.i64.wrap (b0_1.tdiv d16.fst) <
 if Go.IntKind.i64.wrap (b0.tdiv d16.snd) < Go.IntKind.i64.wrap (b0.tdiv d16.fst) then Go.IntKind.i64.wrap (b0.tdiv d16.snd)
 else Go.IntKind.i64.wrap (b0.tdiv d16.fst) then
 Go.IntKind.i64.wrap (b0_1.tdiv d16.fst)
 else
 if Go.IntKind.i64.wrap (b0.tdiv d16.snd) < Go.IntKind.i64.wrap (b0.tdiv d16.fst) then Go.IntKind.i64.wrap (b0.tdiv d16.snd)
 else Go.IntKind.i64.wrap (b0.tdiv d16.fst) then
 Go.IntKind.i64.wrap (b0_1.tdiv d16.snd)
 else
 if
 Go.IntKind.i64.wrap (b0_1.tdiv d16.fst) <
 if Go.IntKind.i64.wrap (b0.tdiv d16.snd) < Go.IntKind.i64.wrap (b0.tdiv d16.fst) then Go.IntKind.i64.wrap (b0.tdiv d16.snd)
 else Go.IntKind.i64.wrap (b0.tdiv d16.fst) then
 Go.IntKind.i64.wrap (b0_1.tdiv d16.fst)
 else
 if Go.IntKind.i64.wrap (b0.tdiv d16.snd) < Go.IntKind.i64.wrap (b0.tdiv d16.fst) then Go.IntKind.i64.wrap (b0.tdiv d16.snd) else Go.IntKind.i64.wrap (b0.tdiv d16.fst),
 if
 Go.IntKind.i64.wrap (b0_1.tdiv d16.snd) >
 if
 Go.IntKind.i64.wrap (b0_1.tdiv d16.fst) >
 if Go.IntKind.i64.wrap (b0.tdiv d16.snd) > Go.IntKind.i64.wrap (b0.tdiv d16.fst) then Go.IntKind.i64.wrap (b0.tdiv d16.snd)
 else Go.IntKind.i64.wrap (b0.tdiv d16.fst) then
 Go.IntKind.i64.wrap (b0_1.tdiv d16.fst)
 else
 if Go.IntKind.i64.wrap (b0.tdiv d16.snd) > Go.IntKind.i64.wrap (b0.tdiv d16.fst) then Go.IntKind.i64.wrap (b0.tdiv d16.snd)
 else Go.IntKind.i64.wrap (b0.tdiv d16.fst) then
 Go.IntKind.i64.wrap (b0_1.tdiv d16.snd)
 else
 if
 Go.IntKind.i64.wrap (b0_1.tdiv d16.fst) >
 if Go.IntKind.i64.wrap (b0.tdiv d16.snd) > Go.IntKind.i64.wrap (b0.tdiv d16.fst) then Go.IntKind.i64.wrap (b0.tdiv d16.snd)
 else Go.IntKind.i64.wrap (b0.tdiv d16.fst) then
 Go.IntKind.i64.wrap (b0_1.tdiv d16.fst)
 else
 if Go.IntKind.i64.wrap (b0.tdiv d16.snd) > Go.IntKind.i64.wrap (b0.tdiv d16.fst) then Go.IntKind.i64.wrap (b0.tdiv d16.snd) else Go.IntKind.i64.wrap (b0.tdiv d16.fst)),
 (-2147483648, 2147483647), ()))
 Option.none fun d17 ↦
 Go.Proofs.Ytbdcblpjemmipaa.Ex.optC (Go.Proofs.Ytbdcblpjemmipaa.Ex.G_itv_Join ([(b3, b3_1), d17], ())) Option.none fun d18 ↦
 bif s7 then Option.some (Sum.inl (Bool.true, s16, Go.IntKind.i64.wrap (s17 + 1), b0, b0_1, b1, b1_1, b2, b2_1, d18.fst, d18.snd, b4))
 else
 Go.Proofs.Ytbdcblpjemmipaa.Ex.optC
 (Go.Proofs.Ytbdcblpjemmipaa.Ex.G_itv_Leq
 ((if
 Go.IntKind.i64.wrap (b0_1.tdiv d16.snd) <
 if
 Go.IntKind.i64.wrap (b0_1.tdiv d16.fst) <
 if Go.IntKind.i64.wrap (b0.tdiv d16.snd) < Go.IntKind.i64.wrap (b0.tdiv d16.fst) then Go.IntKind.i64.wrap (b0.tdiv d16.snd)
 else Go.IntKind.i64.wrap (b0.tdiv d16.fst) then
 Go.IntKind.i64.wrap (b0_1.tdiv d16.fst)
 else
 if Go.IntKind.i64.wrap (b0.tdiv d16.snd) < Go.IntKind.i64.wrap (b0.tdiv d16.fst) then Go.IntKind.i64.wrap (b0.tdiv d16.snd)
 else Go.IntKind.i64.wrap (b0.tdiv d16.fst) then
 Go.IntKind.i64.wrap (b0_1.tdiv d16.snd)
 else
 if
 Go.IntKind.i64.wrap (b0_1.tdiv d16.fst) <
 if Go.IntKind.i64.wrap (b0.tdiv d16.snd) < Go.IntKind.i64.wrap (b0.tdiv d16.fst) then Go.IntKind.i64.wrap (b0.tdiv d16.snd)
 else Go.IntKind.i64.wrap (b0.tdiv d16.fst) then
 Go.IntKind.i64.wrap (b0_1.tdiv d16.fst)
 else
 if Go.IntKind.i64.wrap (b0.tdiv d16.snd) < Go.IntKind.i64.wrap (b0.tdiv d16.fst) then Go.IntKind.i64.wrap (b0.tdiv d16.snd)
 else Go.IntKind.i64.wrap (b0.tdiv d16.fst),
 if
 Go.IntKind.i64.wrap (b0_1.tdiv d16.snd) >
 if
 Go.IntKind.i64.wrap (b0_1.tdiv d16.fst) >
 if Go.IntKind.i64.wrap (b0.tdiv d16.snd) > Go.IntKind.i64.wrap (b0.tdiv d16.fst) then Go.IntKind.i64.wrap (b0.tdiv d16.snd)
 else Go.IntKind.i64.wrap (b0.tdiv d16.fst) then
 Go.IntKind.i64.wrap (b0_1.tdiv d16.fst)
 else
 if Go.IntKind.i64.wrap (b0.tdiv d16.snd) > Go.IntKind.i64.wrap (b0.tdiv d16.fst) then Go.IntKind.i64.wrap (b0.tdiv d16.snd)
 else Go.IntKind.i64.wrap (b0.tdiv d16.fst) then
 Go.IntKind.i64.wrap (b0_1.tdiv d16.snd)
 else
 if
 Go.IntKind.i64.wrap (b0_1.tdiv d16.fst) >
 if Go.IntKind.i64.wrap (b0.tdiv d16.snd) > Go.IntKind.i64.wrap (b0.tdiv d16.fst) then Go.IntKind.i64.wrap (b0.tdiv d16.snd)
 else Go.IntKind.i64.wrap (b0.tdiv d16.fst) then
 Go.IntKind.i64.wrap (b0_1.tdiv d16.fst)
 else
 if Go.IntKind.i64.wrap (b0.tdiv d16.snd) > Go.IntKind.i64.wrap (b0.tdiv d16.fst) then Go.IntKind.i64.wrap (b0.tdiv d16.snd)
 else Go.IntKind.i64.wrap (b0.tdiv d16.fst)),
 (-2147483648, 2147483647), ()))
 Option.none fun d19 ↦ Option.some (Sum.inl (!d19, s16, Go.IntKind.i64.wrap (s17 + 1), b0, b0_1, b1, b1_1, b2, b2_1, d18.fst, d18.snd, b4))
 else Option.some (Sum.inl (s7, s16, Go.IntKind.i64.wrap (s17 + 1), b0, b0_1, b1, b1_1, b2, b2_1, b3, b3_1, b4))
 else Option.none
 else Option.some (Sum.inr (s7, b2, b2_1, b3, b3_1))
theorem rn_itv_quotients_149_0_0 (s7 : Bool) (s16 : Int) (s17 : Int) (b0 : Int) (b0_1 : Int) (b1 : Int) (b1_1 : Int) (b2 : Int) (b2_1 : Int) (b3 : Int) (b3_1 : Int) (b4 : (List I)) : rdX cx_itv_quotients0 keeps 8 ⟨149, 46, keeps 149, 0⟩ 0 (bodyX 149 0) 0 kp_itv_quotients_149_0 (sT s_itv_quotients_149_0_0 (((), (), (), (), s7, (), s16, s17, ()), ((b0, b0_1, ()), (b1, b1_1, ()), (b2, b2_1, ()), (b3, b3_1, ()), b4, ()))) (sH s_itv_quotients_149_0_0 (((), (), (), (), s7, (), s16, s17, ()), ((b0, b0_1, ()), (b1, b1_1, ()), (b2, b2_1, ()), (b3, b3_1, ()), b4, ()))) (rdO (fun T h => (rdS s_itv_quotients_149_0_0 T h).map (fun (d : ((Unit × (Unit × (Unit × (Unit × (Bool × (Unit × (Int × (Int × Unit)))))))) × ((Int × (Int × Unit)) × ((Int × (Int × Unit)) × ((Int × (Int × Unit)) × ((Int × (Int × Unit)) × ((List I) × Unit))))))) => ((d.1.2.2.2.2.1, d.1.2.2.2.2.2.2.1, d.1.2.2.2.2.2.2.2.1, d.2.1.1, d.2.1.2.1, d.2.2.1.1, d.2.2.1.2.1, d.2.2.2.1.1, d.2.2.2.1.2.1, d.2.2.2.2.1.1, d.2.2.2.2.1.2.1, d.2.2.2.2.2.1) : (Bool × Int × Int × Int × Int × Int × Int × Int × Int × Int × Int × (List I))))) (getE 2 x_itv_quotients_149_0_0_0 (fun (d : ((Unit × (Unit × (Bool × Unit))) × ((Int × (Int × Unit)) × ((Int × (Int × Unit)) × Unit)))) => ((d.1.2.2.1, d.2.1.1, d.2.1.2.1, d.2.2.1.1, d.2.2.1.2.1) : (Bool × Int × Int × Int × Int))))) = st_itv_quotients_149_0_0 s7 s16 s17 b0 b0_1 b1 b1_1 b2 b2_1 b3 b3_1 b4 := by kernel_rfl
noncomputable def L_itv_quotients_149_0_0 (x : (Bool × Int × Int × Int × Int × Int × Int × Int × Int × Int × Int × (List I))) : Option (Bool × Int × Int × Int × Int) := iterO (fun x => st_itv_quotients_149_0_0 x.1 x.2.1 x.2.2.1 x.2.2.2.1 x.2.2.2.2.1 x.2.2.2.2.2.1 x.2.2.2.2.2.2.1 x.2.2.2.2.2.2.2.1 x.2.2.2.2.2.2.2.2.1 x.2.2.2.2.2.2.2.2.2.1 x.2.2.2.2.2.2.2.2.2.2.1 x.2.2.2.2.2.2.2.2.2.2.2) FUEL x
noncomputable def q_itv_quotients_149_0 : Nat → Tm → Prog (Nat × Tm) := (varP 0 (fun T h => (rdS s_itv_quotients_149_0_0 T h).map (fun (d : ((Unit × (Unit × (Unit × (Unit × (Bool × (Unit × (Int × (Int × Unit)))))))) × ((Int × (Int × Unit)) × ((Int × (Int × Unit)) × ((Int × (Int × Unit)) × ((Int × (Int × Unit)) × ((List I) × Unit))))))) => ((d.1.2.2.2.2.1, d.1.2.2.2.2.2.2.1, d.1.2.2.2.2.2.2.2.1, d.2.1.1, d.2.1.2.1, d.2.2.1.1, d.2.2.1.2.1, d.2.2.2.1.1, d.2.2.2.1.2.1, d.2.2.2.2.1.1, d.2.2.2.2.1.2.1, d.2.2.2.2.2.1) : (Bool × Int × Int × Int × Int × Int × Int × Int × Int × Int × Int × (List I))))) L_itv_quotients_149_0_0 (altE 2 x_itv_quotients_149_0_0_0 (fun (x : (Bool × Int × Int × Int × Int)) => ((((), (), x.1, ()), ((x.2.1, x.2.2.1, ()), (x.2.2.2.1, x.2.2.2.2, ()), ())) : ((Unit × (Unit × (Bool × Unit))) × ((Int × (Int × Unit)) × ((Int × (Int × Unit)) × Unit)))))) (fun _ _ => .fail))
theorem ok_itv_quotients_149_0 : VarOk kp_itv_quotients_149_0 F_itv_quotients_149_0 q_itv_quotients_149_0 := (varX_ok (s := s_itv_quotients_149_0_0) (un := (fun (x : (Bool × Int × Int × Int × Int × Int × Int × Int × Int × Int × Int × (List I))) => ((((), (), (), (), x.1, (), x.2.1, x.2.2.1, ()), ((x.2.2.2.1, x.2.2.2.2.1, ()), (x.2.2.2.2.2.1, x.2.2.2.2.2.2.1, ()), (x.2.2.2.2.2.2.2.1, x.2.2.2.2.2.2.2.2.1, ()), (x.2.2.2.2.2.2.2.2.2.1, x.2.2.2.2.2.2.2.2.2.2.1, ()), x.2.2.2.2.2.2.2.2.2.2.2, ())) : ((Unit × (Unit × (Unit × (Unit × (Bool × (Unit × (Int × (Int × Unit)))))))) × ((Int × (Int × Unit)) × ((Int × (Int × Unit)) × ((Int × (Int × Unit)) × ((Int × (Int × Unit)) × ((List I) × Unit))))))))) (by rfl) (fun _ => rfl) (getE_ok (s := x_itv_quotients_149_0_0_0) (un := (fun (x : (Bool × Int × Int × Int × Int)) => ((((), (), x.1, ()), ((x.2.1, x.2.2.1, ()), (x.2.2.2.1, x.2.2.2.2, ()), ())) : ((Unit × (Unit × (Bool × Unit))) × ((Int × (Int × Unit)) × ((Int × (Int × Unit)) × Unit)))))) (by rfl) (fun _ => rfl)) (step := fun x => st_itv_quotients_149_0_0 x.1 x.2.1 x.2.2.1 x.2.2.2.1 x.2.2.2.2.1 x.2.2.2.2.2.1 x.2.2.2.2.2.2.1 x.2.2.2.2.2.2.2.1 x.2.2.2.2.2.2.2.2.1 x.2.2.2.2.2.2.2.2.2.1 x.2.2.2.2.2.2.2.2.2.2.1 x.2.2.2.2.2.2.2.2.2.2.2) (fun x => rn_itv_quotients_149_0_0 x.1 x.2.1 x.2.2.1 x.2.2.2.1 x.2.2.2.2.1 x.2.2.2.2.2.1 x.2.2.2.2.2.2.1 x.2.2.2.2.2.2.2.1 x.2.2.2.2.2.2.2.2.1 x.2.2.2.2.2.2.2.2.2.1 x.2.2.2.2.2.2.2.2.2.2.1 x.2.2.2.2.2.2.2.2.2.2.2) (fun _ _ e => ⟨_, e⟩) (altE_ok 2 x_itv_quotients_149_0_0_0 (fun (x : (Bool × Int × Int × Int × Int)) => ((((), (), x.1, ()), ((x.2.1, x.2.2.1, ()), (x.2.2.2.1, x.2.2.2.2, ()), ())) : ((Unit × (Unit × (Bool × Unit))) × ((Int × (Int × Unit)) × ((Int × (Int × Unit)) × Unit)))))) (VarOk.fail _ _))
noncomputable def lpI_itv_quotients_149_0 (base : Nat) (T : Tm) : Prog (Nat × Tm) := .norm base (kp_itv_quotients_149_0 0) T (q_itv_quotients_149_0 base)
theorem sndI_itv_quotients_149_0 : SoundC Try.prog 46 (.loop (bodyX 149 0)) lpI_itv_quotients_149_0 := loopK_sound (cx := cx_itv_quotients0) (cal := evF cx_itv_quotients0 keeps 8) (kp := keeps 149) (tabOk_of tab_ok) (cmpsOk_of tab_ok cmps_ok) cal_itv_quotients0 mixed (hl_of (g := 149) (b := 0) in_itv_quotients0 (by kernel_rfl) (by kernel_rfl)) ok_itv_quotients_149_0
noncomputable def lpL_itv_quotients_149_0 : Nat → Tm → Prog (Nat × Tm) := lpI_itv_quotients_149_0
theorem sndL_itv_quotients_149_0 : SoundC Try.prog 46 (.loop (bodyX 149 0)) lpL_itv_quotients_149_0 := sndI_itv_quotients_149_0
noncomputable def lp_itv_quotients : Nat → Nat → Option (Nat → Tm → Prog (Nat × Tm))
  | 149, 0 => some lpL_itv_quotients_149_0
  | _, _ => none
noncomputable def cx_itv_quotients : Ctx := { tab := tab, spec := sp_itv_quotients, inl := inl, lps := lp_itv_quotients, fuel := 40 }
theorem in_itv_quotients : InlOk Try.prog cx_itv_quotients := ⟨inl_ok, fun g fn c hg hb q hq p hp => by
  change lp_itv_quotients g q.1 = some p at hp
  change inl g = some fn at hg
  generalize hq1 : q.1 = b at hp
  unfold lp_itv_quotients at hp
  split at hp
  · cases hp; exact lps_case (inl := inl) hg hb hq hq1 (by kernel_rfl) (by kernel_rfl) sndL_itv_quotients_149_0
  · cases hp⟩
theorem cal_itv_quotients (g : Nat) : SoundA Try.prog g (evF cx_itv_quotients keeps 8 g) := evF_sound (tabOk_of tab_ok) (cmpsOk_of tab_ok cmps_ok) mixed in_itv_quotients hsp_itv_quotients keeps 8 g
noncomputable def g_itv_quotients (a0 : I) (a1 : I) : Option (I × (Bool × Unit)) :=
  Go.Proofs.Ytbdcblpjemmipaa.Ex.optC (L_itv_quotients_149_0_0 (Bool.false, (↑[(1, 2147483647), (-2147483648, -1)].length : Int), 0, a0.fst, a0.snd, a1.fst, a1.snd, 0, 0, 1, 0, [(1, 2147483647), (-2147483648, -1)])) Option.none
 fun d4 ↦ Option.some ((d4.snd.snd.snd.fst, d4.snd.snd.snd.snd), d4.fst, PUnit.unit)
theorem raw_itv_quotients (a0 : I) (a1 : I) : evGX cx_itv_quotients keeps 8 149 ash_itv_quotients (.tup [.dat tI, .dat .bool]) ((a0, a1, ()) : (I × (I × Unit))) = g_itv_quotients a0 a1 := by kernel_rfl
noncomputable def G_itv_quotients (x : (I × (I × Unit))) : Option (I × (Bool × Unit)) := g_itv_quotients x.1 x.2.1
noncomputable def con_itv_quotients : List AV → Prog AV := conP true ash_itv_quotients (.tup [.dat tI, .dat .bool]) G_itv_quotients
theorem snd_itv_quotients : SoundA Try.prog 149 con_itv_quotients := conP_sound (cal_itv_quotients 149) true (by rfl) (by rfl) (fun x r e => (evGX_eq _ _ _ _ _ _ _).trans ((raw_itv_quotients x.1 x.2.1).trans e)) (.inl rfl)
end Go.Proofs.Ytbdcblpjemmipaa.Ex

/- meddler/itv.Has: what it makes of data. -/
namespace Go.Proofs.Ytbdcblpjemmipaa.Ex
open Go.Proofs Go.Proofs.Ytbdcblpjemmipaa
set_option maxRecDepth 100000
set_option maxHeartbeats 2000000
set_option linter.unusedVariables false
set_option linter.unusedSimpArgs false
def ash_itv_Has : List Sh := [.dat tI, .dat (.int .i64)]
noncomputable def sp_itv_Has : Nat → Option (List AV → Prog AV)
  | _ => none
theorem hsp_itv_Has : ∀ g p, sp_itv_Has g = some p → SoundA Try.prog g p := by
  intro g p h
  unfold sp_itv_Has at h
  split at h
  · cases h
noncomputable def cx_itv_Has : Ctx := { tab := tab, spec := sp_itv_Has, inl := inl, lps := fun _ _ => none, fuel := 40 }
theorem in_itv_Has : InlOk Try.prog cx_itv_Has := ⟨inl_ok, fun _ _ _ _ _ _ _ _ h => nomatch h⟩
theorem cal_itv_Has (g : Nat) : SoundA Try.prog g (evF cx_itv_Has keeps 8 g) := evF_sound (tabOk_of tab_ok) (cmpsOk_of tab_ok cmps_ok) mixed in_itv_Has hsp_itv_Has keeps 8 g
noncomputable def g_itv_Has (a0 : I) (a1 : Int) : Option Bool :=
  bif Decidable.decide (a1 ≥ a0.fst) then Option.some (Decidable.decide (a1 ≤ a0.snd)) else Option.some Bool.false
theorem raw_itv_Has (a0 : I) (a1 : Int) : evGX cx_itv_Has keeps 8 150 ash_itv_Has (.dat .bool) ((a0, a1, ()) : (I × (Int × Unit))) = g_itv_Has a0 a1 := by kernel_rfl
noncomputable def G_itv_Has (x : (I × (Int × Unit))) : Option Bool := g_itv_Has x.1 x.2.1
noncomputable def con_itv_Has : List AV → Prog AV := conP true ash_itv_Has (.dat .bool) G_itv_Has
theorem snd_itv_Has : SoundA Try.prog 150 con_itv_Has := conP_sound (cal_itv_Has 150) true (by rfl) (by rfl) (fun x r e => (evGX_eq _ _ _ _ _ _ _).trans ((raw_itv_Has x.1 x.2.1).trans e)) (.inl rfl)
end Go.Proofs.Ytbdcblpjemmipaa.Ex

/- meddler/itv.rests: what it makes of data. -/
namespace Go.Proofs.Ytbdcblpjemmipaa.Ex
open Go.Proofs Go.Proofs.Ytbdcblpjemmipaa
set_option maxRecDepth 100000
set_option maxHeartbeats 2000000
set_option linter.unusedVariables false
set_option linter.unusedSimpArgs false
def ash_itv_rests : List Sh := [.dat tI, .dat tI]
noncomputable def sp_itv_rests : Nat → Option (List AV → Prog AV)
  | 89 => some (con_itv_None)
  | _ => none
theorem hsp_itv_rests : ∀ g p, sp_itv_rests g = some p → SoundA Try.prog g p := by
  intro g p h
  unfold sp_itv_rests at h
  split at h
  · cases h; exact snd_itv_None
  · cases h
noncomputable def cx_itv_rests : Ctx := { tab := tab, spec := sp_itv_rests, inl := inl, lps := fun _ _ => none, fuel := 40 }
theorem in_itv_rests : InlOk Try.prog cx_itv_rests := ⟨inl_ok, fun _ _ _ _ _ _ _ _ h => nomatch h⟩
theorem cal_itv_rests (g : Nat) : SoundA Try.prog g (evF cx_itv_rests keeps 8 g) := evF_sound (tabOk_of tab_ok) (cmpsOk_of tab_ok cmps_ok) mixed in_itv_rests hsp_itv_rests keeps 8 g
noncomputable def g_itv_rests (a0 : I) (a1 : I) : Option I :=
  bif a1.fst == 0 && a1.snd == 0 then Option.some (1, 0)
 else
 bif Decidable.decide (a0.fst < 0) then
 bif Decidable.decide (a0.snd > 0) then
 Option.some
 (if
 Go.IntKind.i64.wrap
 (0 -
 Go.IntKind.i64.wrap
 ((if
 Go.IntKind.i64.wrap (0 - a1.fst) >
 if a1.fst > if Go.IntKind.i64.wrap (0 - a1.snd) > a1.snd then Go.IntKind.i64.wrap (0 - a1.snd) else a1.snd then a1.fst
 else if Go.IntKind.i64.wrap (0 - a1.snd) > a1.snd then Go.IntKind.i64.wrap (0 - a1.snd) else a1.snd then
 Go.IntKind.i64.wrap (0 - a1.fst)
 else
 if a1.fst > if Go.IntKind.i64.wrap (0 - a1.snd) > a1.snd then Go.IntKind.i64.wrap (0 - a1.snd) else a1.snd then a1.fst
 else if Go.IntKind.i64.wrap (0 - a1.snd) > a1.snd then Go.IntKind.i64.wrap (0 - a1.snd) else a1.snd) -
 1)) >
 a0.fst then
 Go.IntKind.i64.wrap
 (0 -
 Go.IntKind.i64.wrap
 ((if
 Go.IntKind.i64.wrap (0 - a1.fst) >
 if a1.fst > if Go.IntKind.i64.wrap (0 - a1.snd) > a1.snd then Go.IntKind.i64.wrap (0 - a1.snd) else a1.snd then a1.fst
 else if Go.IntKind.i64.wrap (0 - a1.snd) > a1.snd then Go.IntKind.i64.wrap (0 - a1.snd) else a1.snd then
 Go.IntKind.i64.wrap (0 - a1.fst)
 else
 if a1.fst > if Go.IntKind.i64.wrap (0 - a1.snd) > a1.snd then Go.IntKind.i64.wrap (0 - a1.snd) else a1.snd then a1.fst
 else if Go.IntKind.i64.wrap (0 - a1.snd) > a1.snd then Go.IntKind.i64.wrap (0 - a1.snd) else a1.snd) -
 1))
 else a0.fst,
 if
 Go.IntKind.i64.wrap
 ((if
 Go.IntKind.i64.wrap (0 - a1.fst) >
 if a1.fst > if Go.IntKind.i64.wrap (0 - a1.snd) > a1.snd then Go.IntKind.i64.wrap (0 - a1.snd) else a1.snd then a1.fst
 else if Go.IntKind.i64.wrap (0 - a1.snd) > a1.snd then Go.IntKind.i64.wrap (0 - a1.snd) else a1.snd then
 Go.IntKind.i64.wrap (0 - a1.fst)
 else
 if a1.fst > if Go.IntKind.i64.wrap (0 - a1.snd) > a1.snd then Go.IntKind.i64.wrap (0 - a1.snd) else a1.snd then a1.fst
 else if Go.IntKind.i64.wrap (0 - a1.snd) > a1.snd then Go.IntKind.i64.wrap (0 - a1.snd) else a1.snd) -
 1) <
 a0.snd then
 Go.IntKind.i64.wrap
 ((if
 Go.IntKind.i64.wrap (0 - a1.fst) >
 if a1.fst > if Go.IntKind.i64.wrap (0 - a1.snd) > a1.snd then Go.IntKind.i64.wrap (0 - a1.snd) else a1.snd then a1.fst
 else if Go.IntKind.i64.wrap (0 - a1.snd) > a1.snd then Go.IntKind.i64.wrap (0 - a1.snd) else a1.snd then
 Go.IntKind.i64.wrap (0 - a1.fst)
 else
 if a1.fst > if Go.IntKind.i64.wrap (0 - a1.snd) > a1.snd then Go.IntKind.i64.wrap (0 - a1.snd) else a1.snd then a1.fst
 else if Go.IntKind.i64.wrap (0 - a1.snd) > a1.snd then Go.IntKind.i64.wrap (0 - a1.snd) else a1.snd) -
 1)
 else a0.snd)
 else
 Option.some
 (if
 Go.IntKind.i64.wrap
 (0 -
 Go.IntKind.i64.wrap
 ((if
 Go.IntKind.i64.wrap (0 - a1.fst) >
 if a1.fst > if Go.IntKind.i64.wrap (0 - a1.snd) > a1.snd then Go.IntKind.i64.wrap (0 - a1.snd) else a1.snd then a1.fst
 else if Go.IntKind.i64.wrap (0 - a1.snd) > a1.snd then Go.IntKind.i64.wrap (0 - a1.snd) else a1.snd then
 Go.IntKind.i64.wrap (0 - a1.fst)
 else
 if a1.fst > if Go.IntKind.i64.wrap (0 - a1.snd) > a1.snd then Go.IntKind.i64.wrap (0 - a1.snd) else a1.snd then a1.fst
 else if Go.IntKind.i64.wrap (0 - a1.snd) > a1.snd then Go.IntKind.i64.wrap (0 - a1.snd) else a1.snd) -
 1)) >
 a0.fst then
 Go.IntKind.i64.wrap
 (0 -
 Go.IntKind.i64.wrap
 ((if
 Go.IntKind.i64.wrap (0 - a1.fst) >
 if a1.fst > if Go.IntKind.i64.wrap (0 - a1.snd) > a1.snd then Go.IntKind.i64.wrap (0 - a1.snd) else a1.snd then a1.fst
 else if Go.IntKind.i64.wrap (0 - a1.snd) > a1.snd then Go.IntKind.i64.wrap (0 - a1.snd) else a1.snd then
 Go.IntKind.i64.wrap (0 - a1.fst)
 else
 if a1.fst > if Go.IntKind.i64.wrap (0 - a1.snd) > a1.snd then Go.IntKind.i64.wrap (0 - a1.snd) else a1.snd then a1.fst
 else if Go.IntKind.i64.wrap (0 - a1.snd) > a1.snd then Go.IntKind.i64.wrap (0 - a1.snd) else a1.snd) -
 1))
 else a0.fst,
 0)
 else
 bif Decidable.decide (a0.snd > 0) then
 Option.some
 (0,
 if
 Go.IntKind.i64.wrap
 ((if
 Go.IntKind.i64.wrap (0 - a1.fst) >
 if a1.fst > if Go.IntKind.i64.wrap (0 - a1.snd) > a1.snd then Go.IntKind.i64.wrap (0 - a1.snd) else a1.snd then a1.fst
 else if Go.IntKind.i64.wrap (0 - a1.snd) > a1.snd then Go.IntKind.i64.wrap (0 - a1.snd) else a1.snd then
 Go.IntKind.i64.wrap (0 - a1.fst)
 else
 if a1.fst > if Go.IntKind.i64.wrap (0 - a1.snd) > a1.snd then Go.IntKind.i64.wrap (0 - a1.snd) else a1.snd then a1.fst
 else if Go.IntKind.i64.wrap (0 - a1.snd) > a1.snd then Go.IntKind.i64.wrap (0 - a1.snd) else a1.snd) -
 1) <
 a0.snd then
 Go.IntKind.i64.wrap
 ((if
 Go.IntKind.i64.wrap (0 - a1.fst) >
 if a1.fst > if Go.IntKind.i64.wrap (0 - a1.snd) > a1.snd then Go.IntKind.i64.wrap (0 - a1.snd) else a1.snd then a1.fst
 else if Go.IntKind.i64.wrap (0 - a1.snd) > a1.snd then Go.IntKind.i64.wrap (0 - a1.snd) else a1.snd then
 Go.IntKind.i64.wrap (0 - a1.fst)
 else
 if a1.fst > if Go.IntKind.i64.wrap (0 - a1.snd) > a1.snd then Go.IntKind.i64.wrap (0 - a1.snd) else a1.snd then a1.fst
 else if Go.IntKind.i64.wrap (0 - a1.snd) > a1.snd then Go.IntKind.i64.wrap (0 - a1.snd) else a1.snd) -
 1)
 else a0.snd)
 else Option.some (0, 0)
theorem raw_itv_rests (a0 : I) (a1 : I) : evGX cx_itv_rests keeps 8 151 ash_itv_rests (.dat tI) ((a0, a1, ()) : (I × (I × Unit))) = g_itv_rests a0 a1 := by kernel_rfl
noncomputable def G_itv_rests (x : (I × (I × Unit))) : Option I := g_itv_rests x.1 x.2.1
noncomputable def con_itv_rests : List AV → Prog AV := conP true ash_itv_rests (.dat tI) G_itv_rests
theorem snd_itv_rests : SoundA Try.prog 151 con_itv_rests := conP_sound (cal_itv_rests 151) true (by rfl) (by rfl) (fun x r e => (evGX_eq _ _ _ _ _ _ _).trans ((raw_itv_rests x.1 x.2.1).trans e)) (.inl rfl)
end Go.Proofs.Ytbdcblpjemmipaa.Ex

/- meddler/itv.Do: what it makes of data. -/
namespace Go.Proofs.Ytbdcblpjemmipaa.Ex
open Go.Proofs Go.Proofs.Ytbdcblpjemmipaa
set_option maxRecDepth 100000
set_option maxHeartbeats 2000000
set_option linter.unusedVariables false
set_option linter.unusedSimpArgs false
def ash_itv_Do : List Sh := [.dat (.int .i64), .dat tI, .dat tI]
noncomputable def sp_itv_Do : Nat → Option (List AV → Prog AV)
  | 92 => some (con_itv_Empty)
  | 89 => some (con_itv_None)
  | 149 => some (con_itv_quotients)
  | 150 => some (con_itv_Has)
  | 151 => some (con_itv_rests)
  | 102 => some (con_itv_All)
  | 132 => some (con_itv_Meet)
  | 61 => some (con_itv_Leq)
  | _ => none
theorem hsp_itv_Do : ∀ g p, sp_itv_Do g = some p → SoundA Try.prog g p := by
  intro g p h
  unfold sp_itv_Do at h
  split at h
  · cases h; exact snd_itv_Empty
  · cases h; exact snd_itv_None
  · cases h; exact snd_itv_quotients
  · cases h; exact snd_itv_Has
  · cases h; exact snd_itv_rests
  · cases h; exact snd_itv_All
  · cases h; exact snd_itv_Meet
  · cases h; exact snd_itv_Leq
  · cases h
noncomputable def cx_itv_Do : Ctx := { tab := tab, spec := sp_itv_Do, inl := inl, lps := fun _ _ => none, fuel := 40 }
theorem in_itv_Do : InlOk Try.prog cx_itv_Do := ⟨inl_ok, fun _ _ _ _ _ _ _ _ h => nomatch h⟩
theorem cal_itv_Do (g : Nat) : SoundA Try.prog g (evF cx_itv_Do keeps 8 g) := evF_sound (tabOk_of tab_ok) (cmpsOk_of tab_ok cmps_ok) mixed in_itv_Do hsp_itv_Do keeps 8 g
noncomputable def g_itv_Do (a0 : Int) (a1 : I) (a2 : I) : Option (I × (Bool × (Bool × Unit))) :=
  bif Decidable.decide (a1.fst > a1.snd) then Option.some ((1, 0), Bool.false, Bool.false, PUnit.unit)
 else
 bif Decidable.decide (a2.fst > a2.snd) then Option.some ((1, 0), Bool.false, Bool.false, PUnit.unit)
 else
 bif a0 == 1 then
 Go.Proofs.Ytbdcblpjemmipaa.Ex.optC (Go.Proofs.Ytbdcblpjemmipaa.Ex.G_itv_Meet ((Go.IntKind.i64.wrap (a1.fst + a2.fst), Go.IntKind.i64.wrap (a1.snd + a2.snd)), (-2147483648, 2147483647), ())) Option.none fun d4 ↦
 Go.Proofs.Ytbdcblpjemmipaa.Ex.optC (Go.Proofs.Ytbdcblpjemmipaa.Ex.G_itv_Leq ((Go.IntKind.i64.wrap (a1.fst + a2.fst), Go.IntKind.i64.wrap (a1.snd + a2.snd)), (-2147483648, 2147483647), ())) Option.none fun d5 ↦
 Option.some ((d4.fst, d4.snd), !d5, Bool.false, PUnit.unit)
 else
 bif a0 == 2 then
 Go.Proofs.Ytbdcblpjemmipaa.Ex.optC (Go.Proofs.Ytbdcblpjemmipaa.Ex.G_itv_Meet ((Go.IntKind.i64.wrap (a1.fst - a2.snd), Go.IntKind.i64.wrap (a1.snd - a2.fst)), (-2147483648, 2147483647), ())) Option.none fun d4 ↦
 Go.Proofs.Ytbdcblpjemmipaa.Ex.optC (Go.Proofs.Ytbdcblpjemmipaa.Ex.G_itv_Leq ((Go.IntKind.i64.wrap (a1.fst - a2.snd), Go.IntKind.i64.wrap (a1.snd - a2.fst)), (-2147483648, 2147483647), ())) Option.none fun d5 ↦
 Option.some ((d4.fst, d4.snd), !d5, Bool.false, PUnit.unit)
 else
 bif a0 == 3 then
 Go.Proofs.Ytbdcblpjemmipaa.Ex.optC
 (Go.Proofs.Ytbdcblpjemmipaa.Ex.G_itv_Meet
 ((if
 Go.IntKind.i64.wrap (a1.snd * a2.snd) <
 if
 Go.IntKind.i64.wrap (a1.snd * a2.fst) <
 if Go.IntKind.i64.wrap (a1.fst * a2.snd) < Go.IntKind.i64.wrap (a1.fst * a2.fst) then Go.IntKind.i64.wrap (a1.fst * a2.snd)
 else Go.IntKind.i64.wrap (a1.fst * a2.fst) then
 Go.IntKind.i64.wrap (a1.snd * a2.fst)
 else if Go.IntKind.i64.wrap (a1.fst * a2.snd) < Go.IntKind.i64.wrap (a1.fst * a2.fst) then Go.IntKind.i64.wrap (a1.fst * a2.snd) else Go.IntKind.i64.wrap (a1.fst * a2.fst) then
 Go.IntKind.i64.wrap (a1.snd * a2.snd)
 else
 if
 Go.IntKind.i64.wrap (a1.snd * a2.fst) <
 if Go.IntKind.i64.wrap (a1.fst * a2.snd) < Go.IntKind.i64.wrap (a1.fst * a2.fst) then Go.IntKind.i64.wrap (a1.fst * a2.snd) else Go.IntKind.i64.wrap (a1.fst * a2.fst) then
 Go.IntKind.i64.wrap (a1.snd * a2.fst)
 else if Go.IntKind.i64.wrap (a1.fst * a2.snd) < Go.IntKind.i64.wrap (a1.fst * a2.fst) then Go.IntKind.i64.wrap (a1.fst * a2.snd) else Go.IntKind.i64.wrap (a1.fst * a2.fst),
 if
 Go.IntKind.i64.wrap (a1.snd * a2.snd) >
 if
 Go.IntKind.i64.wrap (a1.snd * a2.fst) >
 if Go.IntKind.i64.wrap (a1.fst * a2.snd) > Go.IntKind.i64.wrap (a1.fst * a2.fst) then Go.IntKind.i64.wrap (a1.fst * a2.snd)
 else Go.IntKind.i64.wrap (a1.fst * a2.fst) then
 Go.IntKind.i64.wrap (a1.snd * a2.fst)
 else if Go.IntKind.i64.wrap (a1.fst * a2.snd) > Go.IntKind.i64.wrap (a1.fst * a2.fst) then Go.IntKind.i64.wrap (a1.fst * a2.snd) else Go.IntKind.i64.wrap (a1.fst * a2.fst) then
 Go.IntKind.i64.wrap (a1.snd * a2.snd)
 else
 if
 Go.IntKind.i64.wrap (a1.snd * a2.fst) >
 if Go.IntKind.i64.wrap (a1.fst * a2.snd) > Go.IntKind.i64.wrap (a1.fst * a2.fst) then Go.IntKind.i64.wrap (a1.fst * a2.snd) else Go.IntKind.i64.wrap (a1.fst * a2.fst) then
 Go.IntKind.i64.wrap (a1.snd * a2.fst)
 else if Go.IntKind.i64.wrap (a1.fst * a2.snd) > Go.IntKind.i64.wrap (a1.fst * a2.fst) then Go.IntKind.i64.wrap (a1.fst * a2.snd) else Go.IntKind.i64.wrap (a1.fst * a2.fst)),
 (-2147483648, 2147483647), ()))
 Option.none fun d4 ↦
 Go.Proofs.Ytbdcblpjemmipaa.Ex.optC
 (Go.Proofs.Ytbdcblpjemmipaa.Ex.G_itv_Leq
 ((if
 Go.IntKind.i64.wrap (a1.snd * a2.snd) <
 if
 Go.IntKind.i64.wrap (a1.snd * a2.fst) <
 if Go.IntKind.i64.wrap (a1.fst * a2.snd) < Go.IntKind.i64.wrap (a1.fst * a2.fst) then Go.IntKind.i64.wrap (a1.fst * a2.snd)
 else Go.IntKind.i64.wrap (a1.fst * a2.fst) then
 Go.IntKind.i64.wrap (a1.snd * a2.fst)
 else
 if Go.IntKind.i64.wrap (a1.fst * a2.snd) < Go.IntKind.i64.wrap (a1.fst * a2.fst) then Go.IntKind.i64.wrap (a1.fst * a2.snd) else Go.IntKind.i64.wrap (a1.fst * a2.fst) then
 Go.IntKind.i64.wrap (a1.snd * a2.snd)
 else
 if
 Go.IntKind.i64.wrap (a1.snd * a2.fst) <
 if Go.IntKind.i64.wrap (a1.fst * a2.snd) < Go.IntKind.i64.wrap (a1.fst * a2.fst) then Go.IntKind.i64.wrap (a1.fst * a2.snd) else Go.IntKind.i64.wrap (a1.fst * a2.fst) then
 Go.IntKind.i64.wrap (a1.snd * a2.fst)
 else if Go.IntKind.i64.wrap (a1.fst * a2.snd) < Go.IntKind.i64.wrap (a1.fst * a2.fst) then Go.IntKind.i64.wrap (a1.fst * a2.snd) else Go.IntKind.i64.wrap (a1.fst * a2.fst),
 if
 Go.IntKind.i64.wrap (a1.snd * a2.snd) >
 if
 Go.IntKind.i64.wrap (a1.snd * a2.fst) >
 if Go.IntKind.i64.wrap (a1.fst * a2.snd) > Go.IntKind.i64.wrap (a1.fst * a2.fst) then Go.IntKind.i64.wrap (a1.fst * a2.snd)
 else Go.IntKind.i64.wrap (a1.fst * a2.fst) then
 Go.IntKind.i64.wrap (a1.snd * a2.fst)
 else
 if Go.IntKind.i64.wrap (a1.fst * a2.snd) > Go.IntKind.i64.wrap (a1.fst * a2.fst) then Go.IntKind.i64.wrap (a1.fst * a2.snd) else Go.IntKind.i64.wrap (a1.fst * a2.fst) then
 Go.IntKind.i64.wrap (a1.snd * a2.snd)
 else
 if
 Go.IntKind.i64.wrap (a1.snd * a2.fst) >
 if Go.IntKind.i64.wrap (a1.fst * a2.snd) > Go.IntKind.i64.wrap (a1.fst * a2.fst) then Go.IntKind.i64.wrap (a1.fst * a2.snd) else Go.IntKind.i64.wrap (a1.fst * a2.fst) then
 Go.IntKind.i64.wrap (a1.snd * a2.fst)
 else if Go.IntKind.i64.wrap (a1.fst * a2.snd) > Go.IntKind.i64.wrap (a1.fst * a2.fst) then Go.IntKind.i64.wrap (a1.fst * a2.snd) else Go.IntKind.i64.wrap (a1.fst * a2.fst)),
 (-2147483648, 2147483647), ()))
 Option.none fun d5 ↦ Option.some ((d4.fst, d4.snd), !d5, Bool.false, PUnit.unit)
 else
 bif a0 == 4 then
 Go.Proofs.Ytbdcblpjemmipaa.Ex.optC (Go.Proofs.Ytbdcblpjemmipaa.Ex.G_itv_quotients (a1, a2, ())) Option.none fun d4 ↦
 Go.Proofs.Ytbdcblpjemmipaa.Ex.optC (Go.Proofs.Ytbdcblpjemmipaa.Ex.G_itv_Has (a2, 0, ())) Option.none fun d5 ↦ Option.some ((d4.fst.fst, d4.fst.snd), d4.snd.fst, d5, PUnit.unit)
 else
 bif a0 == 5 then
 Go.Proofs.Ytbdcblpjemmipaa.Ex.optC (Go.Proofs.Ytbdcblpjemmipaa.Ex.G_itv_rests (a1, a2, ())) Option.none fun d4 ↦ Go.Proofs.Ytbdcblpjemmipaa.Ex.optC (Go.Proofs.Ytbdcblpjemmipaa.Ex.G_itv_Has (a2, 0, ())) Option.none fun d5 ↦ Option.some ((d4.fst, d4.snd), Bool.false, d5, PUnit.unit)
 else Option.some ((1, 0), !Bool.true, Bool.false, PUnit.unit)
theorem raw_itv_Do (a0 : Int) (a1 : I) (a2 : I) : evGX cx_itv_Do keeps 8 129 ash_itv_Do (.tup [.dat tI, .dat .bool, .dat .bool]) ((a0, a1, a2, ()) : (Int × (I × (I × Unit)))) = g_itv_Do a0 a1 a2 := by kernel_rfl
noncomputable def G_itv_Do (x : (Int × (I × (I × Unit)))) : Option (I × (Bool × (Bool × Unit))) := g_itv_Do x.1 x.2.1 x.2.2.1
noncomputable def con_itv_Do : List AV → Prog AV := conP true ash_itv_Do (.tup [.dat tI, .dat .bool, .dat .bool]) G_itv_Do
theorem snd_itv_Do : SoundA Try.prog 129 con_itv_Do := conP_sound (cal_itv_Do 129) true (by rfl) (by rfl) (fun x r e => (evGX_eq _ _ _ _ _ _ _).trans ((raw_itv_Do x.1 x.2.1 x.2.2.1).trans e)) (.inl rfl)
end Go.Proofs.Ytbdcblpjemmipaa.Ex

/- meddler/flow.Do: what it makes of data. -/
namespace Go.Proofs.Ytbdcblpjemmipaa.Ex
open Go.Proofs Go.Proofs.Ytbdcblpjemmipaa
set_option maxRecDepth 100000
set_option maxHeartbeats 2000000
set_option linter.unusedVariables false
set_option linter.unusedSimpArgs false
def ash_flow_Do : List Sh := [.dat tU, .dat (.int .i64), .dat (.int .i64), .dat tE, .dat (.sl tEn)]
noncomputable def sp_flow_Do : Nat → Option (List AV → Prog AV)
  | 101 => some (con_itv_Of)
  | 102 => some (con_itv_All)
  | 35 => some (con_flow_Read)
  | 110 => some (con_num_Not)
  | 136 => some (con_itv_Refine)
  | 132 => some (con_itv_Meet)
  | 92 => some (con_itv_Empty)
  | 137 => some (con_env_None)
  | 131 => some (con_slices_Clone_Itv)
  | 48 => some (con_held_Has)
  | 135 => some (con_held_Without)
  | 133 => some (con_flow_deed_gains)
  | 134 => some (con_held_With)
  | 61 => some (con_itv_Leq)
  | 55 => some (con_itv_Join)
  | 129 => some (con_itv_Do)
  | _ => none
theorem hsp_flow_Do : ∀ g p, sp_flow_Do g = some p → SoundA Try.prog g p := by
  intro g p h
  unfold sp_flow_Do at h
  split at h
  · cases h; exact snd_itv_Of
  · cases h; exact snd_itv_All
  · cases h; exact snd_flow_Read
  · cases h; exact snd_num_Not
  · cases h; exact snd_itv_Refine
  · cases h; exact snd_itv_Meet
  · cases h; exact snd_itv_Empty
  · cases h; exact snd_env_None
  · cases h; exact snd_slices_Clone_Itv
  · cases h; exact snd_held_Has
  · cases h; exact snd_held_Without
  · cases h; exact snd_flow_deed_gains
  · cases h; exact snd_held_With
  · cases h; exact snd_itv_Leq
  · cases h; exact snd_itv_Join
  · cases h; exact snd_itv_Do
  · cases h
noncomputable def cx_flow_Do : Ctx := { tab := tab, spec := sp_flow_Do, inl := inl, lps := fun _ _ => none, fuel := 40 }
theorem in_flow_Do : InlOk Try.prog cx_flow_Do := ⟨inl_ok, fun _ _ _ _ _ _ _ _ h => nomatch h⟩
theorem cal_flow_Do (g : Nat) : SoundA Try.prog g (evF cx_flow_Do keeps 8 g) := evF_sound (tabOk_of tab_ok) (cmpsOk_of tab_ok cmps_ok) mixed in_flow_Do hsp_flow_Do keeps 8 g
noncomputable def g_flow_Do (a0 : U) (a1 : Int) (a2 : Int) (a3 : E) (a4 : (List En)) : Option O :=
  bif Decidable.decide (0 ≤ a1) then
 Go.Proofs.Ytbdcblpjemmipaa.Ex.optC a0.snd.snd.snd[a1.toNat]? Option.none fun d6 ↦
 bif Decidable.decide (0 ≤ a2) then
 Go.Proofs.Ytbdcblpjemmipaa.Ex.optC d6.snd[a2.toNat]? Option.none fun d7 ↦
 bif a3.fst then
 bif d7.fst == 1 then
 Go.Proofs.Ytbdcblpjemmipaa.Ex.optC (Go.Proofs.Ytbdcblpjemmipaa.Ex.G_itv_Of ([d7.snd.snd.snd.snd.snd.fst], ())) Option.none fun d8 ↦
 bif Decidable.decide (((List.length (α := Go.Proofs.Ytbdcblpjemmipaa.Ex.I) []) + List.length a3.snd.fst + 1) * 16 ≤ Go.Proofs.Ytbdcblpjemmipaa.Ex.lim) then
 bif Decidable.decide (0 ≤ d7.snd.fst) then
 Go.Proofs.Ytbdcblpjemmipaa.Ex.optC ([] ++ a3.snd.fst)[Int.toNat d7.snd.fst]? Option.none fun d9 ↦
 Go.Proofs.Ytbdcblpjemmipaa.Ex.optC ([] ++ a3.snd.fst)[Int.toNat d7.snd.fst]? Option.none fun d10 ↦
 Option.some
 ((a3.fst, ([] ++ a3.snd.fst).set (Int.toNat d7.snd.fst) d8, a3.snd.snd.fst, a3.snd.snd.snd.fst, a3.snd.snd.snd.snd.fst, a3.snd.snd.snd.snd.snd), (Bool.false, [], [], [], 0, 0),
 [], [], [])
 else Option.none
 else Option.none
 else
 bif d7.fst == 2 then
 bif Decidable.decide (0 ≤ d7.snd.snd.fst) then
 Go.Proofs.Ytbdcblpjemmipaa.Ex.optC a3.snd.fst[Int.toNat d7.snd.snd.fst]? Option.none fun d8 ↦
 bif Decidable.decide (((List.length (α := Go.Proofs.Ytbdcblpjemmipaa.Ex.I) []) + List.length a3.snd.fst + 1) * 16 ≤ Go.Proofs.Ytbdcblpjemmipaa.Ex.lim) then
 bif Decidable.decide (0 ≤ d7.snd.fst) then
 Go.Proofs.Ytbdcblpjemmipaa.Ex.optC ([] ++ a3.snd.fst)[Int.toNat d7.snd.fst]? Option.none fun d9 ↦
 Go.Proofs.Ytbdcblpjemmipaa.Ex.optC ([] ++ a3.snd.fst)[Int.toNat d7.snd.fst]? Option.none fun d10 ↦
 Option.some
 ((a3.fst, ([] ++ a3.snd.fst).set (Int.toNat d7.snd.fst) d8, a3.snd.snd.fst, a3.snd.snd.snd.fst, a3.snd.snd.snd.snd.fst, a3.snd.snd.snd.snd.snd),
 (Bool.false, [], [], [], 0, 0), [], [], [])
 else Option.none
 else Option.none
 else Option.none
 else
 bif d7.fst == 3 then
 bif Decidable.decide (((List.length (α := Go.Proofs.Ytbdcblpjemmipaa.Ex.I) []) + List.length a3.snd.fst + 1) * 16 ≤ Go.Proofs.Ytbdcblpjemmipaa.Ex.lim) then
 bif Decidable.decide (0 ≤ d7.snd.fst) then
 Go.Proofs.Ytbdcblpjemmipaa.Ex.optC ([] ++ a3.snd.fst)[Int.toNat d7.snd.fst]? Option.none fun d8 ↦
 Go.Proofs.Ytbdcblpjemmipaa.Ex.optC ([] ++ a3.snd.fst)[Int.toNat d7.snd.fst]? Option.none fun d9 ↦
 Option.some
 ((a3.fst, ([] ++ a3.snd.fst).set (Int.toNat d7.snd.fst) (-2147483648, 2147483647), a3.snd.snd.fst, a3.snd.snd.snd.fst, a3.snd.snd.snd.snd.fst, a3.snd.snd.snd.snd.snd),
 (Bool.false, [], [], [], 0, 0), [], [], [])
 else Option.none
 else Option.none
 else
 bif d7.fst == 4 then
 bif Decidable.decide (0 ≤ d7.snd.snd.fst) then
 Go.Proofs.Ytbdcblpjemmipaa.Ex.optC a3.snd.fst[Int.toNat d7.snd.snd.fst]? Option.none fun d8 ↦
 bif Decidable.decide (0 ≤ d7.snd.snd.snd.fst) then
 Go.Proofs.Ytbdcblpjemmipaa.Ex.optC a3.snd.fst[Int.toNat d7.snd.snd.snd.fst]? Option.none fun d9 ↦
 Go.Proofs.Ytbdcblpjemmipaa.Ex.optC (Go.Proofs.Ytbdcblpjemmipaa.Ex.G_itv_Do (d7.snd.snd.snd.snd.snd.snd.fst, d8, d9, ())) Option.none fun d10 ↦
 bif d10.snd.fst then
 bif d10.snd.snd.fst then
 bif !Decidable.decide (d10.fst.fst > d10.fst.snd) then
 bif Decidable.decide (((List.length (α := Go.Proofs.Ytbdcblpjemmipaa.Ex.I) []) + List.length a3.snd.fst + 1) * 16 ≤ Go.Proofs.Ytbdcblpjemmipaa.Ex.lim) then
 bif Decidable.decide (0 ≤ d7.snd.fst) then
 Go.Proofs.Ytbdcblpjemmipaa.Ex.optC ([] ++ a3.snd.fst)[Int.toNat d7.snd.fst]? Option.none fun d11 ↦
 Go.Proofs.Ytbdcblpjemmipaa.Ex.optC ([] ++ a3.snd.fst)[Int.toNat d7.snd.fst]? Option.none fun d12 ↦
 Option.some
 ((a3.fst, ([] ++ a3.snd.fst).set (Int.toNat d7.snd.fst) d10.fst, a3.snd.snd.fst, a3.snd.snd.snd.fst, a3.snd.snd.snd.snd.fst, a3.snd.snd.snd.snd.snd),
 (Bool.false, [], [], [], 0, 0), [7, 8], [], [])
 else Option.none
 else Option.none
 else Option.some ((Bool.false, [], [], [], 0, 0), (Bool.false, [], [], [], 0, 0), [7, 8], [], [])
 else
 bif !Decidable.decide (d10.fst.fst > d10.fst.snd) then
 bif Decidable.decide (((List.length (α := Go.Proofs.Ytbdcblpjemmipaa.Ex.I) []) + List.length a3.snd.fst + 1) * 16 ≤ Go.Proofs.Ytbdcblpjemmipaa.Ex.lim) then
 bif Decidable.decide (0 ≤ d7.snd.fst) then
 Go.Proofs.Ytbdcblpjemmipaa.Ex.optC ([] ++ a3.snd.fst)[Int.toNat d7.snd.fst]? Option.none fun d11 ↦
 Go.Proofs.Ytbdcblpjemmipaa.Ex.optC ([] ++ a3.snd.fst)[Int.toNat d7.snd.fst]? Option.none fun d12 ↦
 Option.some
 ((a3.fst, ([] ++ a3.snd.fst).set (Int.toNat d7.snd.fst) d10.fst, a3.snd.snd.fst, a3.snd.snd.snd.fst, a3.snd.snd.snd.snd.fst, a3.snd.snd.snd.snd.snd),
 (Bool.false, [], [], [], 0, 0), [7], [], [])
 else Option.none
 else Option.none
 else Option.some ((Bool.false, [], [], [], 0, 0), (Bool.false, [], [], [], 0, 0), [7], [], [])
 else
 bif d10.snd.snd.fst then
 bif !Decidable.decide (d10.fst.fst > d10.fst.snd) then
 bif Decidable.decide (((List.length (α := Go.Proofs.Ytbdcblpjemmipaa.Ex.I) []) + List.length a3.snd.fst + 1) * 16 ≤ Go.Proofs.Ytbdcblpjemmipaa.Ex.lim) then
 bif Decidable.decide (0 ≤ d7.snd.fst) then
 Go.Proofs.Ytbdcblpjemmipaa.Ex.optC ([] ++ a3.snd.fst)[Int.toNat d7.snd.fst]? Option.none fun d11 ↦
 Go.Proofs.Ytbdcblpjemmipaa.Ex.optC ([] ++ a3.snd.fst)[Int.toNat d7.snd.fst]? Option.none fun d12 ↦
 Option.some
 ((a3.fst, ([] ++ a3.snd.fst).set (Int.toNat d7.snd.fst) d10.fst, a3.snd.snd.fst, a3.snd.snd.snd.fst, a3.snd.snd.snd.snd.fst, a3.snd.snd.snd.snd.snd),
 (Bool.false, [], [], [], 0, 0), [8], [], [])
 else Option.none
 else Option.none
 else Option.some ((Bool.false, [], [], [], 0, 0), (Bool.false, [], [], [], 0, 0), [8], [], [])
 else
 bif !Decidable.decide (d10.fst.fst > d10.fst.snd) then
 bif Decidable.decide (((List.length (α := Go.Proofs.Ytbdcblpjemmipaa.Ex.I) []) + List.length a3.snd.fst + 1) * 16 ≤ Go.Proofs.Ytbdcblpjemmipaa.Ex.lim) then
 bif Decidable.decide (0 ≤ d7.snd.fst) then
 Go.Proofs.Ytbdcblpjemmipaa.Ex.optC ([] ++ a3.snd.fst)[Int.toNat d7.snd.fst]? Option.none fun d11 ↦
 Go.Proofs.Ytbdcblpjemmipaa.Ex.optC ([] ++ a3.snd.fst)[Int.toNat d7.snd.fst]? Option.none fun d12 ↦
 Option.some
 ((a3.fst, ([] ++ a3.snd.fst).set (Int.toNat d7.snd.fst) d10.fst, a3.snd.snd.fst, a3.snd.snd.snd.fst, a3.snd.snd.snd.snd.fst, a3.snd.snd.snd.snd.snd),
 (Bool.false, [], [], [], 0, 0), [], [], [])
 else Option.none
 else Option.none
 else Option.some ((Bool.false, [], [], [], 0, 0), (Bool.false, [], [], [], 0, 0), [], [], [])
 else Option.none
 else Option.none
 else
 bif d7.fst == 5 then
 Go.Proofs.Ytbdcblpjemmipaa.Ex.optC (Go.Proofs.Ytbdcblpjemmipaa.Ex.G_flow_Read (a0, a1, a3, a4, Bool.false, d7.snd.snd.snd.snd.fst, ())) Option.none fun d8 ↦
 bif Decidable.decide (((List.length (α := Go.Proofs.Ytbdcblpjemmipaa.Ex.I) []) + List.length a3.snd.fst + 1) * 16 ≤ Go.Proofs.Ytbdcblpjemmipaa.Ex.lim) then
 bif Decidable.decide (0 ≤ d7.snd.fst) then
 Go.Proofs.Ytbdcblpjemmipaa.Ex.optC ([] ++ a3.snd.fst)[Int.toNat d7.snd.fst]? Option.none fun d9 ↦
 Go.Proofs.Ytbdcblpjemmipaa.Ex.optC ([] ++ a3.snd.fst)[Int.toNat d7.snd.fst]? Option.none fun d10 ↦
 Option.some
 ((a3.fst, ([] ++ a3.snd.fst).set (Int.toNat d7.snd.fst) d8, a3.snd.snd.fst, a3.snd.snd.snd.fst, a3.snd.snd.snd.snd.fst, a3.snd.snd.snd.snd.snd),
 (Bool.false, [], [], [], 0, 0), [], [], [(a1, a2, Bool.false, d7.snd.snd.snd.snd.fst, Bool.false, a3.snd.snd.snd.snd.fst)])
 else Option.none
 else Option.none
 else
 bif d7.fst == 6 then
 bif Decidable.decide (0 ≤ d7.snd.snd.fst) then
 Go.Proofs.Ytbdcblpjemmipaa.Ex.optC a3.snd.fst[Int.toNat d7.snd.snd.fst]? Option.none fun d8 ↦
 bif Decidable.decide (((List.length (α := Go.Proofs.Ytbdcblpjemmipaa.Ex.I) []) + List.length a3.snd.snd.fst + 1) * 16 ≤ Go.Proofs.Ytbdcblpjemmipaa.Ex.lim) then
 bif Decidable.decide (0 ≤ d7.snd.snd.snd.snd.fst) then
 Go.Proofs.Ytbdcblpjemmipaa.Ex.optC ([] ++ a3.snd.snd.fst)[Int.toNat d7.snd.snd.snd.snd.fst]? Option.none fun d9 ↦
 Go.Proofs.Ytbdcblpjemmipaa.Ex.optC ([] ++ a3.snd.snd.fst)[Int.toNat d7.snd.snd.snd.snd.fst]? Option.none fun d10 ↦
 Option.some
 ((a3.fst, a3.snd.fst, ([] ++ a3.snd.snd.fst).set (Int.toNat d7.snd.snd.snd.snd.fst) d8, a3.snd.snd.snd.fst, a3.snd.snd.snd.snd.fst, a3.snd.snd.snd.snd.snd),
 (Bool.false, [], [], [], 0, 0), [], [(a1, Bool.false, d7.snd.snd.snd.snd.fst, a3.snd.snd.snd.snd.fst, d8.fst, d8.snd)],
 [(a1, a2, Bool.false, d7.snd.snd.snd.snd.fst, Bool.true, a3.snd.snd.snd.snd.fst)])
 else Option.none
 else Option.none
 else Option.none
 else
 bif d7.fst == 7 then
 bif Decidable.decide (0 ≤ d7.snd.snd.snd.snd.fst) then
 Go.Proofs.Ytbdcblpjemmipaa.Ex.optC a0.snd.fst[Int.toNat d7.snd.snd.snd.snd.fst]? Option.none fun d8 ↦
 bif Decidable.decide (0 ≤ d7.snd.snd.fst) then
 Go.Proofs.Ytbdcblpjemmipaa.Ex.optC a3.snd.fst[Int.toNat d7.snd.snd.fst]? Option.none fun d9 ↦
 Go.Proofs.Ytbdcblpjemmipaa.Ex.optC (Go.Proofs.Ytbdcblpjemmipaa.Ex.G_itv_Leq (d9, (0, Go.IntKind.i64.wrap (d8 - 1)), ())) Option.none fun d10 ↦
 bif !d10 then
 bif d7.fst == 8 then
 bif Decidable.decide (0 ≤ d7.snd.snd.snd.fst) then
 Go.Proofs.Ytbdcblpjemmipaa.Ex.optC a3.snd.fst[Int.toNat d7.snd.snd.snd.fst]? Option.none fun d11 ↦
 Go.Proofs.Ytbdcblpjemmipaa.Ex.optC (Go.Proofs.Ytbdcblpjemmipaa.Ex.G_itv_Meet (d9, (0, Go.IntKind.i64.wrap (d8 - 1)), ())) Option.none fun d12 ↦
 bif Decidable.decide (d12.fst > d12.snd) then
 Option.some
 ((Bool.false, [], [], [], 0, 0), (Bool.false, [], [], [], 0, 0), [9],
 [(a1, Bool.true, d7.snd.snd.snd.snd.fst, a3.snd.snd.snd.snd.fst, d11.fst, d11.snd)],
 [(a1, a2, Bool.true, d7.snd.snd.snd.snd.fst, d7.fst == 8, a3.snd.snd.snd.snd.fst)])
 else
 bif Decidable.decide (((List.length (α := Go.Proofs.Ytbdcblpjemmipaa.Ex.I) []) + List.length a3.snd.fst + 1) * 16 ≤ Go.Proofs.Ytbdcblpjemmipaa.Ex.lim) then
 bif Decidable.decide (0 ≤ d7.snd.snd.fst) then
 Go.Proofs.Ytbdcblpjemmipaa.Ex.optC ([] ++ a3.snd.fst)[Int.toNat d7.snd.snd.fst]? Option.none fun d13 ↦
 Go.Proofs.Ytbdcblpjemmipaa.Ex.optC ([] ++ a3.snd.fst)[Int.toNat d7.snd.snd.fst]? Option.none fun d14 ↦
 bif !d7.fst == 8 then
 Go.Proofs.Ytbdcblpjemmipaa.Ex.optC
 (Go.Proofs.Ytbdcblpjemmipaa.Ex.G_flow_Read
 (a0, a1, (a3.fst, ([] ++ a3.snd.fst).set (Int.toNat d7.snd.snd.fst) d12, a3.snd.snd), a4, Bool.true, d7.snd.snd.snd.snd.fst, ()))
 Option.none fun d15 ↦ Option.none
 else
 bif Decidable.decide (((List.length (α := Go.Proofs.Ytbdcblpjemmipaa.Ex.I) []) + List.length a3.snd.snd.snd.fst + 1) * 16 ≤ Go.Proofs.Ytbdcblpjemmipaa.Ex.lim) then
 bif Decidable.decide (0 ≤ d7.snd.snd.snd.snd.fst) then
 Go.Proofs.Ytbdcblpjemmipaa.Ex.optC ([] ++ a3.snd.snd.snd.fst)[Int.toNat d7.snd.snd.snd.snd.fst]? Option.none fun d15 ↦
 Go.Proofs.Ytbdcblpjemmipaa.Ex.optC ([] ++ a3.snd.snd.snd.fst)[Int.toNat d7.snd.snd.snd.snd.fst]? Option.none fun d16 ↦
 bif Decidable.decide (0 ≤ d7.snd.snd.snd.fst) then
 Go.Proofs.Ytbdcblpjemmipaa.Ex.optC (([] ++ a3.snd.fst).set (Int.toNat d7.snd.snd.fst) d12)[Int.toNat d7.snd.snd.snd.fst]? Option.none fun d17 ↦
 Go.Proofs.Ytbdcblpjemmipaa.Ex.optC (([] ++ a3.snd.fst).set (Int.toNat d7.snd.snd.fst) d12)[Int.toNat d7.snd.snd.snd.fst]? Option.none fun d18 ↦
 Go.Proofs.Ytbdcblpjemmipaa.Ex.optC (Go.Proofs.Ytbdcblpjemmipaa.Ex.G_itv_Join ([d16, d18], ())) Option.none fun d19 ↦
 bif Decidable.decide (0 ≤ d7.snd.snd.snd.snd.fst) then
 Go.Proofs.Ytbdcblpjemmipaa.Ex.optC ([] ++ a3.snd.snd.snd.fst)[Int.toNat d7.snd.snd.snd.snd.fst]? Option.none fun d20 ↦
 Go.Proofs.Ytbdcblpjemmipaa.Ex.optC ([] ++ a3.snd.snd.snd.fst)[Int.toNat d7.snd.snd.snd.snd.fst]? Option.none fun d21 ↦
 Option.some
 ((a3.fst, ([] ++ a3.snd.fst).set (Int.toNat d7.snd.snd.fst) d12, a3.snd.snd.fst,
 ([] ++ a3.snd.snd.snd.fst).set (Int.toNat d7.snd.snd.snd.snd.fst) d19, a3.snd.snd.snd.snd.fst,
 a3.snd.snd.snd.snd.snd),
 (Bool.false, [], [], [], 0, 0), [9],
 [(a1, Bool.true, d7.snd.snd.snd.snd.fst, a3.snd.snd.snd.snd.fst, d11.fst, d11.snd)],
 [(a1, a2, Bool.true, d7.snd.snd.snd.snd.fst, d7.fst == 8, a3.snd.snd.snd.snd.fst)])
 else Option.none
 else Option.none
 else Option.none
 else Option.none
 else Option.none
 else Option.none
 else Option.none
 else
 Go.Proofs.Ytbdcblpjemmipaa.Ex.optC (Go.Proofs.Ytbdcblpjemmipaa.Ex.G_itv_Meet (d9, (0, Go.IntKind.i64.wrap (d8 - 1)), ())) Option.none fun d11 ↦
 bif Decidable.decide (d11.fst > d11.snd) then
 Option.some
 ((Bool.false, [], [], [], 0, 0), (Bool.false, [], [], [], 0, 0), [9], [],
 [(a1, a2, Bool.true, d7.snd.snd.snd.snd.fst, d7.fst == 8, a3.snd.snd.snd.snd.fst)])
 else
 bif Decidable.decide (((List.length (α := Go.Proofs.Ytbdcblpjemmipaa.Ex.I) []) + List.length a3.snd.fst + 1) * 16 ≤ Go.Proofs.Ytbdcblpjemmipaa.Ex.lim) then
 bif Decidable.decide (0 ≤ d7.snd.snd.fst) then
 Go.Proofs.Ytbdcblpjemmipaa.Ex.optC ([] ++ a3.snd.fst)[Int.toNat d7.snd.snd.fst]? Option.none fun d12 ↦
 Go.Proofs.Ytbdcblpjemmipaa.Ex.optC ([] ++ a3.snd.fst)[Int.toNat d7.snd.snd.fst]? Option.none fun d13 ↦
 bif !d7.fst == 8 then
 Go.Proofs.Ytbdcblpjemmipaa.Ex.optC
 (Go.Proofs.Ytbdcblpjemmipaa.Ex.G_flow_Read
 (a0, a1, (a3.fst, ([] ++ a3.snd.fst).set (Int.toNat d7.snd.snd.fst) d11, a3.snd.snd), a4, Bool.true, d7.snd.snd.snd.snd.fst, ()))
 Option.none fun d14 ↦ Option.none
 else
 bif Decidable.decide (((List.length (α := Go.Proofs.Ytbdcblpjemmipaa.Ex.I) []) + List.length a3.snd.snd.snd.fst + 1) * 16 ≤ Go.Proofs.Ytbdcblpjemmipaa.Ex.lim) then
 bif Decidable.decide (0 ≤ d7.snd.snd.snd.snd.fst) then
 Go.Proofs.Ytbdcblpjemmipaa.Ex.optC ([] ++ a3.snd.snd.snd.fst)[Int.toNat d7.snd.snd.snd.snd.fst]? Option.none fun d14 ↦
 Go.Proofs.Ytbdcblpjemmipaa.Ex.optC ([] ++ a3.snd.snd.snd.fst)[Int.toNat d7.snd.snd.snd.snd.fst]? Option.none fun d15 ↦
 bif Decidable.decide (0 ≤ d7.snd.snd.snd.fst) then
 Go.Proofs.Ytbdcblpjemmipaa.Ex.optC (([] ++ a3.snd.fst).set (Int.toNat d7.snd.snd.fst) d11)[Int.toNat d7.snd.snd.snd.fst]? Option.none fun d16 ↦
 Go.Proofs.Ytbdcblpjemmipaa.Ex.optC (([] ++ a3.snd.fst).set (Int.toNat d7.snd.snd.fst) d11)[Int.toNat d7.snd.snd.snd.fst]? Option.none fun d17 ↦
 Go.Proofs.Ytbdcblpjemmipaa.Ex.optC (Go.Proofs.Ytbdcblpjemmipaa.Ex.G_itv_Join ([d15, d17], ())) Option.none fun d18 ↦
 bif Decidable.decide (0 ≤ d7.snd.snd.snd.snd.fst) then
 Go.Proofs.Ytbdcblpjemmipaa.Ex.optC ([] ++ a3.snd.snd.snd.fst)[Int.toNat d7.snd.snd.snd.snd.fst]? Option.none fun d19 ↦
 Go.Proofs.Ytbdcblpjemmipaa.Ex.optC ([] ++ a3.snd.snd.snd.fst)[Int.toNat d7.snd.snd.snd.snd.fst]? Option.none fun d20 ↦
 Option.some
 ((a3.fst, ([] ++ a3.snd.fst).set (Int.toNat d7.snd.snd.fst) d11, a3.snd.snd.fst,
 ([] ++ a3.snd.snd.snd.fst).set (Int.toNat d7.snd.snd.snd.snd.fst) d18, a3.snd.snd.snd.snd.fst, a3.snd.snd.snd.snd.snd),
 (Bool.false, [], [], [], 0, 0), [9], [],
 [(a1, a2, Bool.true, d7.snd.snd.snd.snd.fst, d7.fst == 8, a3.snd.snd.snd.snd.fst)])
 else Option.none
 else Option.none
 else Option.none
 else Option.none
 else Option.none
 else Option.none
 else
 bif d7.fst == 8 then
 bif Decidable.decide (0 ≤ d7.snd.snd.snd.fst) then
 Go.Proofs.Ytbdcblpjemmipaa.Ex.optC a3.snd.fst[Int.toNat d7.snd.snd.snd.fst]? Option.none fun d11 ↦
 Go.Proofs.Ytbdcblpjemmipaa.Ex.optC (Go.Proofs.Ytbdcblpjemmipaa.Ex.G_itv_Meet (d9, (0, Go.IntKind.i64.wrap (d8 - 1)), ())) Option.none fun d12 ↦
 bif Decidable.decide (d12.fst > d12.snd) then
 Option.some
 ((Bool.false, [], [], [], 0, 0), (Bool.false, [], [], [], 0, 0), [],
 [(a1, Bool.true, d7.snd.snd.snd.snd.fst, a3.snd.snd.snd.snd.fst, d11.fst, d11.snd)],
 [(a1, a2, Bool.true, d7.snd.snd.snd.snd.fst, d7.fst == 8, a3.snd.snd.snd.snd.fst)])
 else
 bif Decidable.decide (((List.length (α := Go.Proofs.Ytbdcblpjemmipaa.Ex.I) []) + List.length a3.snd.fst + 1) * 16 ≤ Go.Proofs.Ytbdcblpjemmipaa.Ex.lim) then
 bif Decidable.decide (0 ≤ d7.snd.snd.fst) then
 Go.Proofs.Ytbdcblpjemmipaa.Ex.optC ([] ++ a3.snd.fst)[Int.toNat d7.snd.snd.fst]? Option.none fun d13 ↦
 Go.Proofs.Ytbdcblpjemmipaa.Ex.optC ([] ++ a3.snd.fst)[Int.toNat d7.snd.snd.fst]? Option.none fun d14 ↦
 bif !d7.fst == 8 then
 Go.Proofs.Ytbdcblpjemmipaa.Ex.optC
 (Go.Proofs.Ytbdcblpjemmipaa.Ex.G_flow_Read
 (a0, a1, (a3.fst, ([] ++ a3.snd.fst).set (Int.toNat d7.snd.snd.fst) d12, a3.snd.snd), a4, Bool.true, d7.snd.snd.snd.snd.fst, ()))
 Option.none fun d15 ↦ Option.none
 else
 bif Decidable.decide (((List.length (α := Go.Proofs.Ytbdcblpjemmipaa.Ex.I) []) + List.length a3.snd.snd.snd.fst + 1) * 16 ≤ Go.Proofs.Ytbdcblpjemmipaa.Ex.lim) then
 bif Decidable.decide (0 ≤ d7.snd.snd.snd.snd.fst) then
 Go.Proofs.Ytbdcblpjemmipaa.Ex.optC ([] ++ a3.snd.snd.snd.fst)[Int.toNat d7.snd.snd.snd.snd.fst]? Option.none fun d15 ↦
 Go.Proofs.Ytbdcblpjemmipaa.Ex.optC ([] ++ a3.snd.snd.snd.fst)[Int.toNat d7.snd.snd.snd.snd.fst]? Option.none fun d16 ↦
 bif Decidable.decide (0 ≤ d7.snd.snd.snd.fst) then
 Go.Proofs.Ytbdcblpjemmipaa.Ex.optC (([] ++ a3.snd.fst).set (Int.toNat d7.snd.snd.fst) d12)[Int.toNat d7.snd.snd.snd.fst]? Option.none fun d17 ↦
 Go.Proofs.Ytbdcblpjemmipaa.Ex.optC (([] ++ a3.snd.fst).set (Int.toNat d7.snd.snd.fst) d12)[Int.toNat d7.snd.snd.snd.fst]? Option.none fun d18 ↦
 Go.Proofs.Ytbdcblpjemmipaa.Ex.optC (Go.Proofs.Ytbdcblpjemmipaa.Ex.G_itv_Join ([d16, d18], ())) Option.none fun d19 ↦
 bif Decidable.decide (0 ≤ d7.snd.snd.snd.snd.fst) then
 Go.Proofs.Ytbdcblpjemmipaa.Ex.optC ([] ++ a3.snd.snd.snd.fst)[Int.toNat d7.snd.snd.snd.snd.fst]? Option.none fun d20 ↦
 Go.Proofs.Ytbdcblpjemmipaa.Ex.optC ([] ++ a3.snd.snd.snd.fst)[Int.toNat d7.snd.snd.snd.snd.fst]? Option.none fun d21 ↦
 Option.some
 ((a3.fst, ([] ++ a3.snd.fst).set (Int.toNat d7.snd.snd.fst) d12, a3.snd.snd.fst,
 ([] ++ a3.snd.snd.snd.fst).set (Int.toNat d7.snd.snd.snd.snd.fst) d19, a3.snd.snd.snd.snd.fst,
 a3.snd.snd.snd.snd.snd),
 (Bool.false, [], [], [], 0, 0), [],
 [(a1, Bool.true, d7.snd.snd.snd.snd.fst, a3.snd.snd.snd.snd.fst, d11.fst, d11.snd)],
 [(a1, a2, Bool.true, d7.snd.snd.snd.snd.fst, d7.fst == 8, a3.snd.snd.snd.snd.fst)])
 else Option.none
 else Option.none
 else Option.none
 else Option.none
 else Option.none
 else Option.none
 else Option.none
 else
 Go.Proofs.Ytbdcblpjemmipaa.Ex.optC (Go.Proofs.Ytbdcblpjemmipaa.Ex.G_itv_Meet (d9, (0, Go.IntKind.i64.wrap (d8 - 1)), ())) Option.none fun d11 ↦
 bif Decidable.decide (d11.fst > d11.snd) then
 Option.some
 ((Bool.false, [], [], [], 0, 0), (Bool.false, [], [], [], 0, 0), [], [], [(a1, a2, Bool.true, d7.snd.snd.snd.snd.fst, d7.fst == 8, a3.snd.snd.snd.snd.fst)])
 else
 bif Decidable.decide (((List.length (α := Go.Proofs.Ytbdcblpjemmipaa.Ex.I) []) + List.length a3.snd.fst + 1) * 16 ≤ Go.Proofs.Ytbdcblpjemmipaa.Ex.lim) then
 bif Decidable.decide (0 ≤ d7.snd.snd.fst) then
 Go.Proofs.Ytbdcblpjemmipaa.Ex.optC ([] ++ a3.snd.fst)[Int.toNat d7.snd.snd.fst]? Option.none fun d12 ↦
 Go.Proofs.Ytbdcblpjemmipaa.Ex.optC ([] ++ a3.snd.fst)[Int.toNat d7.snd.snd.fst]? Option.none fun d13 ↦
 bif !d7.fst == 8 then
 Go.Proofs.Ytbdcblpjemmipaa.Ex.optC
 (Go.Proofs.Ytbdcblpjemmipaa.Ex.G_flow_Read
 (a0, a1, (a3.fst, ([] ++ a3.snd.fst).set (Int.toNat d7.snd.snd.fst) d11, a3.snd.snd), a4, Bool.true, d7.snd.snd.snd.snd.fst, ()))
 Option.none fun d14 ↦ Option.none
 else
 bif Decidable.decide (((List.length (α := Go.Proofs.Ytbdcblpjemmipaa.Ex.I) []) + List.length a3.snd.snd.snd.fst + 1) * 16 ≤ Go.Proofs.Ytbdcblpjemmipaa.Ex.lim) then
 bif Decidable.decide (0 ≤ d7.snd.snd.snd.snd.fst) then
 Go.Proofs.Ytbdcblpjemmipaa.Ex.optC ([] ++ a3.snd.snd.snd.fst)[Int.toNat d7.snd.snd.snd.snd.fst]? Option.none fun d14 ↦
 Go.Proofs.Ytbdcblpjemmipaa.Ex.optC ([] ++ a3.snd.snd.snd.fst)[Int.toNat d7.snd.snd.snd.snd.fst]? Option.none fun d15 ↦
 bif Decidable.decide (0 ≤ d7.snd.snd.snd.fst) then
 Go.Proofs.Ytbdcblpjemmipaa.Ex.optC (([] ++ a3.snd.fst).set (Int.toNat d7.snd.snd.fst) d11)[Int.toNat d7.snd.snd.snd.fst]? Option.none fun d16 ↦
 Go.Proofs.Ytbdcblpjemmipaa.Ex.optC (([] ++ a3.snd.fst).set (Int.toNat d7.snd.snd.fst) d11)[Int.toNat d7.snd.snd.snd.fst]? Option.none fun d17 ↦
 Go.Proofs.Ytbdcblpjemmipaa.Ex.optC (Go.Proofs.Ytbdcblpjemmipaa.Ex.G_itv_Join ([d15, d17], ())) Option.none fun d18 ↦
 bif Decidable.decide (0 ≤ d7.snd.snd.snd.snd.fst) then
 Go.Proofs.Ytbdcblpjemmipaa.Ex.optC ([] ++ a3.snd.snd.snd.fst)[Int.toNat d7.snd.snd.snd.snd.fst]? Option.none fun d19 ↦
 Go.Proofs.Ytbdcblpjemmipaa.Ex.optC ([] ++ a3.snd.snd.snd.fst)[Int.toNat d7.snd.snd.snd.snd.fst]? Option.none fun d20 ↦
 Option.some
 ((a3.fst, ([] ++ a3.snd.fst).set (Int.toNat d7.snd.snd.fst) d11, a3.snd.snd.fst,
 ([] ++ a3.snd.snd.snd.fst).set (Int.toNat d7.snd.snd.snd.snd.fst) d18, a3.snd.snd.snd.snd.fst, a3.snd.snd.snd.snd.snd),
 (Bool.false, [], [], [], 0, 0), [], [],
 [(a1, a2, Bool.true, d7.snd.snd.snd.snd.fst, d7.fst == 8, a3.snd.snd.snd.snd.fst)])
 else Option.none
 else Option.none
 else Option.none
 else Option.none
 else Option.none
 else Option.none
 else Option.none
 else Option.none
 else
 bif d7.fst == 8 then
 bif Decidable.decide (0 ≤ d7.snd.snd.snd.snd.fst) then
 Go.Proofs.Ytbdcblpjemmipaa.Ex.optC a0.snd.fst[Int.toNat d7.snd.snd.snd.snd.fst]? Option.none fun d8 ↦
 bif Decidable.decide (0 ≤ d7.snd.snd.fst) then
 Go.Proofs.Ytbdcblpjemmipaa.Ex.optC a3.snd.fst[Int.toNat d7.snd.snd.fst]? Option.none fun d9 ↦
 Go.Proofs.Ytbdcblpjemmipaa.Ex.optC (Go.Proofs.Ytbdcblpjemmipaa.Ex.G_itv_Leq (d9, (0, Go.IntKind.i64.wrap (d8 - 1)), ())) Option.none fun d10 ↦
 bif !d10 then
 bif d7.fst == 8 then
 bif Decidable.decide (0 ≤ d7.snd.snd.snd.fst) then
 Go.Proofs.Ytbdcblpjemmipaa.Ex.optC a3.snd.fst[Int.toNat d7.snd.snd.snd.fst]? Option.none fun d11 ↦
 Go.Proofs.Ytbdcblpjemmipaa.Ex.optC (Go.Proofs.Ytbdcblpjemmipaa.Ex.G_itv_Meet (d9, (0, Go.IntKind.i64.wrap (d8 - 1)), ())) Option.none fun d12 ↦
 bif Decidable.decide (d12.fst > d12.snd) then
 Option.some
 ((Bool.false, [], [], [], 0, 0), (Bool.false, [], [], [], 0, 0), [9],
 [(a1, Bool.true, d7.snd.snd.snd.snd.fst, a3.snd.snd.snd.snd.fst, d11.fst, d11.snd)],
 [(a1, a2, Bool.true, d7.snd.snd.snd.snd.fst, d7.fst == 8, a3.snd.snd.snd.snd.fst)])
 else
 bif Decidable.decide (((List.length (α := Go.Proofs.Ytbdcblpjemmipaa.Ex.I) []) + List.length a3.snd.fst + 1) * 16 ≤ Go.Proofs.Ytbdcblpjemmipaa.Ex.lim) then
 bif Decidable.decide (0 ≤ d7.snd.snd.fst) then
 Go.Proofs.Ytbdcblpjemmipaa.Ex.optC ([] ++ a3.snd.fst)[Int.toNat d7.snd.snd.fst]? Option.none fun d13 ↦
 Go.Proofs.Ytbdcblpjemmipaa.Ex.optC ([] ++ a3.snd.fst)[Int.toNat d7.snd.snd.fst]? Option.none fun d14 ↦
 bif !d7.fst == 8 then
 Go.Proofs.Ytbdcblpjemmipaa.Ex.optC
 (Go.Proofs.Ytbdcblpjemmipaa.Ex.G_flow_Read
 (a0, a1, (a3.fst, ([] ++ a3.snd.fst).set (Int.toNat d7.snd.snd.fst) d12, a3.snd.snd), a4, Bool.true, d7.snd.snd.snd.snd.fst, ()))
 Option.none fun d15 ↦ Option.none
 else
 bif Decidable.decide (((List.length (α := Go.Proofs.Ytbdcblpjemmipaa.Ex.I) []) + List.length a3.snd.snd.snd.fst + 1) * 16 ≤ Go.Proofs.Ytbdcblpjemmipaa.Ex.lim) then
 bif Decidable.decide (0 ≤ d7.snd.snd.snd.snd.fst) then
 Go.Proofs.Ytbdcblpjemmipaa.Ex.optC ([] ++ a3.snd.snd.snd.fst)[Int.toNat d7.snd.snd.snd.snd.fst]? Option.none fun d15 ↦
 Go.Proofs.Ytbdcblpjemmipaa.Ex.optC ([] ++ a3.snd.snd.snd.fst)[Int.toNat d7.snd.snd.snd.snd.fst]? Option.none fun d16 ↦
 bif Decidable.decide (0 ≤ d7.snd.snd.snd.fst) then
 Go.Proofs.Ytbdcblpjemmipaa.Ex.optC (([] ++ a3.snd.fst).set (Int.toNat d7.snd.snd.fst) d12)[Int.toNat d7.snd.snd.snd.fst]? Option.none fun d17 ↦
 Go.Proofs.Ytbdcblpjemmipaa.Ex.optC (([] ++ a3.snd.fst).set (Int.toNat d7.snd.snd.fst) d12)[Int.toNat d7.snd.snd.snd.fst]? Option.none fun d18 ↦
 Go.Proofs.Ytbdcblpjemmipaa.Ex.optC (Go.Proofs.Ytbdcblpjemmipaa.Ex.G_itv_Join ([d16, d18], ())) Option.none fun d19 ↦
 bif Decidable.decide (0 ≤ d7.snd.snd.snd.snd.fst) then
 Go.Proofs.Ytbdcblpjemmipaa.Ex.optC ([] ++ a3.snd.snd.snd.fst)[Int.toNat d7.snd.snd.snd.snd.fst]? Option.none fun d20 ↦
 Go.Proofs.Ytbdcblpjemmipaa.Ex.optC ([] ++ a3.snd.snd.snd.fst)[Int.toNat d7.snd.snd.snd.snd.fst]? Option.none fun d21 ↦
 Option.some
 ((a3.fst, ([] ++ a3.snd.fst).set (Int.toNat d7.snd.snd.fst) d12, a3.snd.snd.fst,
 ([] ++ a3.snd.snd.snd.fst).set (Int.toNat d7.snd.snd.snd.snd.fst) d19, a3.snd.snd.snd.snd.fst,
 a3.snd.snd.snd.snd.snd),
 (Bool.false, [], [], [], 0, 0), [9],
 [(a1, Bool.true, d7.snd.snd.snd.snd.fst, a3.snd.snd.snd.snd.fst, d11.fst, d11.snd)],
 [(a1, a2, Bool.true, d7.snd.snd.snd.snd.fst, d7.fst == 8, a3.snd.snd.snd.snd.fst)])
 else Option.none
 else Option.none
 else Option.none
 else Option.none
 else Option.none
 else Option.none
 else Option.none
 else
 Go.Proofs.Ytbdcblpjemmipaa.Ex.optC (Go.Proofs.Ytbdcblpjemmipaa.Ex.G_itv_Meet (d9, (0, Go.IntKind.i64.wrap (d8 - 1)), ())) Option.none fun d11 ↦
 bif Decidable.decide (d11.fst > d11.snd) then
 Option.some
 ((Bool.false, [], [], [], 0, 0), (Bool.false, [], [], [], 0, 0), [9], [],
 [(a1, a2, Bool.true, d7.snd.snd.snd.snd.fst, d7.fst == 8, a3.snd.snd.snd.snd.fst)])
 else
 bif Decidable.decide (((List.length (α := Go.Proofs.Ytbdcblpjemmipaa.Ex.I) []) + List.length a3.snd.fst + 1) * 16 ≤ Go.Proofs.Ytbdcblpjemmipaa.Ex.lim) then
 bif Decidable.decide (0 ≤ d7.snd.snd.fst) then
 Go.Proofs.Ytbdcblpjemmipaa.Ex.optC ([] ++ a3.snd.fst)[Int.toNat d7.snd.snd.fst]? Option.none fun d12 ↦
 Go.Proofs.Ytbdcblpjemmipaa.Ex.optC ([] ++ a3.snd.fst)[Int.toNat d7.snd.snd.fst]? Option.none fun d13 ↦
 bif !d7.fst == 8 then
 Go.Proofs.Ytbdcblpjemmipaa.Ex.optC
 (Go.Proofs.Ytbdcblpjemmipaa.Ex.G_flow_Read
 (a0, a1, (a3.fst, ([] ++ a3.snd.fst).set (Int.toNat d7.snd.snd.fst) d11, a3.snd.snd), a4, Bool.true, d7.snd.snd.snd.snd.fst, ()))
 Option.none fun d14 ↦ Option.none
 else
 bif Decidable.decide (((List.length (α := Go.Proofs.Ytbdcblpjemmipaa.Ex.I) []) + List.length a3.snd.snd.snd.fst + 1) * 16 ≤ Go.Proofs.Ytbdcblpjemmipaa.Ex.lim) then
 bif Decidable.decide (0 ≤ d7.snd.snd.snd.snd.fst) then
 Go.Proofs.Ytbdcblpjemmipaa.Ex.optC ([] ++ a3.snd.snd.snd.fst)[Int.toNat d7.snd.snd.snd.snd.fst]? Option.none fun d14 ↦
 Go.Proofs.Ytbdcblpjemmipaa.Ex.optC ([] ++ a3.snd.snd.snd.fst)[Int.toNat d7.snd.snd.snd.snd.fst]? Option.none fun d15 ↦
 bif Decidable.decide (0 ≤ d7.snd.snd.snd.fst) then
 Go.Proofs.Ytbdcblpjemmipaa.Ex.optC (([] ++ a3.snd.fst).set (Int.toNat d7.snd.snd.fst) d11)[Int.toNat d7.snd.snd.snd.fst]? Option.none fun d16 ↦
 Go.Proofs.Ytbdcblpjemmipaa.Ex.optC (([] ++ a3.snd.fst).set (Int.toNat d7.snd.snd.fst) d11)[Int.toNat d7.snd.snd.snd.fst]? Option.none fun d17 ↦
 Go.Proofs.Ytbdcblpjemmipaa.Ex.optC (Go.Proofs.Ytbdcblpjemmipaa.Ex.G_itv_Join ([d15, d17], ())) Option.none fun d18 ↦
 bif Decidable.decide (0 ≤ d7.snd.snd.snd.snd.fst) then
 Go.Proofs.Ytbdcblpjemmipaa.Ex.optC ([] ++ a3.snd.snd.snd.fst)[Int.toNat d7.snd.snd.snd.snd.fst]? Option.none fun d19 ↦
 Go.Proofs.Ytbdcblpjemmipaa.Ex.optC ([] ++ a3.snd.snd.snd.fst)[Int.toNat d7.snd.snd.snd.snd.fst]? Option.none fun d20 ↦
 Option.some
 ((a3.fst, ([] ++ a3.snd.fst).set (Int.toNat d7.snd.snd.fst) d11, a3.snd.snd.fst,
 ([] ++ a3.snd.snd.snd.fst).set (Int.toNat d7.snd.snd.snd.snd.fst) d18, a3.snd.snd.snd.snd.fst,
 a3.snd.snd.snd.snd.snd),
 (Bool.false, [], [], [], 0, 0), [9], [],
 [(a1, a2, Bool.true, d7.snd.snd.snd.snd.fst, d7.fst == 8, a3.snd.snd.snd.snd.fst)])
 else Option.none
 else Option.none
 else Option.none
 else Option.none
 else Option.none
 else Option.none
 else
 bif d7.fst == 8 then
 bif Decidable.decide (0 ≤ d7.snd.snd.snd.fst) then
 Go.Proofs.Ytbdcblpjemmipaa.Ex.optC a3.snd.fst[Int.toNat d7.snd.snd.snd.fst]? Option.none fun d11 ↦
 Go.Proofs.Ytbdcblpjemmipaa.Ex.optC (Go.Proofs.Ytbdcblpjemmipaa.Ex.G_itv_Meet (d9, (0, Go.IntKind.i64.wrap (d8 - 1)), ())) Option.none fun d12 ↦
 bif Decidable.decide (d12.fst > d12.snd) then
 Option.some
 ((Bool.false, [], [], [], 0, 0), (Bool.false, [], [], [], 0, 0), [],
 [(a1, Bool.true, d7.snd.snd.snd.snd.fst, a3.snd.snd.snd.snd.fst, d11.fst, d11.snd)],
 [(a1, a2, Bool.true, d7.snd.snd.snd.snd.fst, d7.fst == 8, a3.snd.snd.snd.snd.fst)])
 else
 bif Decidable.decide (((List.length (α := Go.Proofs.Ytbdcblpjemmipaa.Ex.I) []) + List.length a3.snd.fst + 1) * 16 ≤ Go.Proofs.Ytbdcblpjemmipaa.Ex.lim) then
 bif Decidable.decide (0 ≤ d7.snd.snd.fst) then
 Go.Proofs.Ytbdcblpjemmipaa.Ex.optC ([] ++ a3.snd.fst)[Int.toNat d7.snd.snd.fst]? Option.none fun d13 ↦
 Go.Proofs.Ytbdcblpjemmipaa.Ex.optC ([] ++ a3.snd.fst)[Int.toNat d7.snd.snd.fst]? Option.none fun d14 ↦
 bif !d7.fst == 8 then
 Go.Proofs.Ytbdcblpjemmipaa.Ex.optC
 (Go.Proofs.Ytbdcblpjemmipaa.Ex.G_flow_Read
 (a0, a1, (a3.fst, ([] ++ a3.snd.fst).set (Int.toNat d7.snd.snd.fst) d12, a3.snd.snd), a4, Bool.true, d7.snd.snd.snd.snd.fst, ()))
 Option.none fun d15 ↦ Option.none
 else
 bif Decidable.decide (((List.length (α := Go.Proofs.Ytbdcblpjemmipaa.Ex.I) []) + List.length a3.snd.snd.snd.fst + 1) * 16 ≤ Go.Proofs.Ytbdcblpjemmipaa.Ex.lim) then
 bif Decidable.decide (0 ≤ d7.snd.snd.snd.snd.fst) then
 Go.Proofs.Ytbdcblpjemmipaa.Ex.optC ([] ++ a3.snd.snd.snd.fst)[Int.toNat d7.snd.snd.snd.snd.fst]? Option.none fun d15 ↦
 Go.Proofs.Ytbdcblpjemmipaa.Ex.optC ([] ++ a3.snd.snd.snd.fst)[Int.toNat d7.snd.snd.snd.snd.fst]? Option.none fun d16 ↦
 bif Decidable.decide (0 ≤ d7.snd.snd.snd.fst) then
 Go.Proofs.Ytbdcblpjemmipaa.Ex.optC (([] ++ a3.snd.fst).set (Int.toNat d7.snd.snd.fst) d12)[Int.toNat d7.snd.snd.snd.fst]? Option.none fun d17 ↦
 Go.Proofs.Ytbdcblpjemmipaa.Ex.optC (([] ++ a3.snd.fst).set (Int.toNat d7.snd.snd.fst) d12)[Int.toNat d7.snd.snd.snd.fst]? Option.none fun d18 ↦
 Go.Proofs.Ytbdcblpjemmipaa.Ex.optC (Go.Proofs.Ytbdcblpjemmipaa.Ex.G_itv_Join ([d16, d18], ())) Option.none fun d19 ↦
 bif Decidable.decide (0 ≤ d7.snd.snd.snd.snd.fst) then
 Go.Proofs.Ytbdcblpjemmipaa.Ex.optC ([] ++ a3.snd.snd.snd.fst)[Int.toNat d7.snd.snd.snd.snd.fst]? Option.none fun d20 ↦
 Go.Proofs.Ytbdcblpjemmipaa.Ex.optC ([] ++ a3.snd.snd.snd.fst)[Int.toNat d7.snd.snd.snd.snd.fst]? Option.none fun d21 ↦
 Option.some
 ((a3.fst, ([] ++ a3.snd.fst).set (Int.toNat d7.snd.snd.fst) d12, a3.snd.snd.fst,
 ([] ++ a3.snd.snd.snd.fst).set (Int.toNat d7.snd.snd.snd.snd.fst) d19, a3.snd.snd.snd.snd.fst,
 a3.snd.snd.snd.snd.snd),
 (Bool.false, [], [], [], 0, 0), [],
 [(a1, Bool.true, d7.snd.snd.snd.snd.fst, a3.snd.snd.snd.snd.fst, d11.fst, d11.snd)],
 [(a1, a2, Bool.true, d7.snd.snd.snd.snd.fst, d7.fst == 8, a3.snd.snd.snd.snd.fst)])
 else Option.none
 else Option.none
 else Option.none
 else Option.none
 else Option.none
 else Option.none
 else Option.none
 else
 Go.Proofs.Ytbdcblpjemmipaa.Ex.optC (Go.Proofs.Ytbdcblpjemmipaa.Ex.G_itv_Meet (d9, (0, Go.IntKind.i64.wrap (d8 - 1)), ())) Option.none fun d11 ↦
 bif Decidable.decide (d11.fst > d11.snd) then
 Option.some
 ((Bool.false, [], [], [], 0, 0), (Bool.false, [], [], [], 0, 0), [], [],
 [(a1, a2, Bool.true, d7.snd.snd.snd.snd.fst, d7.fst == 8, a3.snd.snd.snd.snd.fst)])
 else
 bif Decidable.decide (((List.length (α := Go.Proofs.Ytbdcblpjemmipaa.Ex.I) []) + List.length a3.snd.fst + 1) * 16 ≤ Go.Proofs.Ytbdcblpjemmipaa.Ex.lim) then
 bif Decidable.decide (0 ≤ d7.snd.snd.fst) then
 Go.Proofs.Ytbdcblpjemmipaa.Ex.optC ([] ++ a3.snd.fst)[Int.toNat d7.snd.snd.fst]? Option.none fun d12 ↦
 Go.Proofs.Ytbdcblpjemmipaa.Ex.optC ([] ++ a3.snd.fst)[Int.toNat d7.snd.snd.fst]? Option.none fun d13 ↦
 bif !d7.fst == 8 then
 Go.Proofs.Ytbdcblpjemmipaa.Ex.optC
 (Go.Proofs.Ytbdcblpjemmipaa.Ex.G_flow_Read
 (a0, a1, (a3.fst, ([] ++ a3.snd.fst).set (Int.toNat d7.snd.snd.fst) d11, a3.snd.snd), a4, Bool.true, d7.snd.snd.snd.snd.fst, ()))
 Option.none fun d14 ↦ Option.none
 else
 bif Decidable.decide (((List.length (α := Go.Proofs.Ytbdcblpjemmipaa.Ex.I) []) + List.length a3.snd.snd.snd.fst + 1) * 16 ≤ Go.Proofs.Ytbdcblpjemmipaa.Ex.lim) then
 bif Decidable.decide (0 ≤ d7.snd.snd.snd.snd.fst) then
 Go.Proofs.Ytbdcblpjemmipaa.Ex.optC ([] ++ a3.snd.snd.snd.fst)[Int.toNat d7.snd.snd.snd.snd.fst]? Option.none fun d14 ↦
 Go.Proofs.Ytbdcblpjemmipaa.Ex.optC ([] ++ a3.snd.snd.snd.fst)[Int.toNat d7.snd.snd.snd.snd.fst]? Option.none fun d15 ↦
 bif Decidable.decide (0 ≤ d7.snd.snd.snd.fst) then
 Go.Proofs.Ytbdcblpjemmipaa.Ex.optC (([] ++ a3.snd.fst).set (Int.toNat d7.snd.snd.fst) d11)[Int.toNat d7.snd.snd.snd.fst]? Option.none fun d16 ↦
 Go.Proofs.Ytbdcblpjemmipaa.Ex.optC (([] ++ a3.snd.fst).set (Int.toNat d7.snd.snd.fst) d11)[Int.toNat d7.snd.snd.snd.fst]? Option.none fun d17 ↦
 Go.Proofs.Ytbdcblpjemmipaa.Ex.optC (Go.Proofs.Ytbdcblpjemmipaa.Ex.G_itv_Join ([d15, d17], ())) Option.none fun d18 ↦
 bif Decidable.decide (0 ≤ d7.snd.snd.snd.snd.fst) then
 Go.Proofs.Ytbdcblpjemmipaa.Ex.optC ([] ++ a3.snd.snd.snd.fst)[Int.toNat d7.snd.snd.snd.snd.fst]? Option.none fun d19 ↦
 Go.Proofs.Ytbdcblpjemmipaa.Ex.optC ([] ++ a3.snd.snd.snd.fst)[Int.toNat d7.snd.snd.snd.snd.fst]? Option.none fun d20 ↦
 Option.some
 ((a3.fst, ([] ++ a3.snd.fst).set (Int.toNat d7.snd.snd.fst) d11, a3.snd.snd.fst,
 ([] ++ a3.snd.snd.snd.fst).set (Int.toNat d7.snd.snd.snd.snd.fst) d18, a3.snd.snd.snd.snd.fst,
 a3.snd.snd.snd.snd.snd),
 (Bool.false, [], [], [], 0, 0), [], [],
 [(a1, a2, Bool.true, d7.snd.snd.snd.snd.fst, d7.fst == 8, a3.snd.snd.snd.snd.fst)])
 else Option.none
 else Option.none
 else Option.none
 else Option.none
 else Option.none
 else Option.none
 else Option.none
 else Option.none
 else
 bif d7.fst == 9 then
 Go.Proofs.Ytbdcblpjemmipaa.Ex.optC (Go.Proofs.Ytbdcblpjemmipaa.Ex.G_held_Has (a3.snd.snd.snd.snd.snd, d7.snd.snd.snd.snd.fst, ())) Option.none fun d8 ↦
 bif d8 then
 Go.Proofs.Ytbdcblpjemmipaa.Ex.optC (Go.Proofs.Ytbdcblpjemmipaa.Ex.G_held_Has (a3.snd.snd.snd.snd.fst, d7.snd.snd.snd.snd.fst, ())) Option.none fun d9 ↦
 bif d9 then Option.some ((Bool.false, [], [], [], 0, 0), (Bool.false, [], [], [], 0, 0), [11], [], [])
 else
 Go.Proofs.Ytbdcblpjemmipaa.Ex.optC
 (Go.Proofs.Ytbdcblpjemmipaa.Ex.G_flow_deed_gains
 ((d7.fst, d7.snd.fst, d7.snd.snd.fst, d7.snd.snd.snd.fst, d7.snd.snd.snd.snd.fst, d7.snd.snd.snd.snd.snd.fst, d7.snd.snd.snd.snd.snd.snd.fst,
 d7.snd.snd.snd.snd.snd.snd.snd.fst, d7.snd.snd.snd.snd.snd.snd.snd.snd, a0.fst, a0.snd.fst, a0.snd.snd.fst, a0.snd.snd.snd, a1, a2, a3.fst, a3.snd.fst,
 a3.snd.snd.fst, a3.snd.snd.snd.fst, a3.snd.snd.snd.snd.fst, a3.snd.snd.snd.snd.snd, a4, Bool.false, [], [], [], 0, 0, Bool.false, [], [], [], 0, 0, [11],
 [], [], ()),
 a3.snd.snd.fst, Bool.false, ()))
 Option.none fun d10 ↦
 Go.Proofs.Ytbdcblpjemmipaa.Ex.optC
 (Go.Proofs.Ytbdcblpjemmipaa.Ex.G_flow_deed_gains
 ((d7.fst, d7.snd.fst, d7.snd.snd.fst, d7.snd.snd.snd.fst, d7.snd.snd.snd.snd.fst, d7.snd.snd.snd.snd.snd.fst, d7.snd.snd.snd.snd.snd.snd.fst,
 d7.snd.snd.snd.snd.snd.snd.snd.fst, d7.snd.snd.snd.snd.snd.snd.snd.snd, a0.fst, a0.snd.fst, a0.snd.snd.fst, a0.snd.snd.snd, a1, a2, a3.fst, a3.snd.fst,
 a3.snd.snd.fst, a3.snd.snd.snd.fst, a3.snd.snd.snd.snd.fst, a3.snd.snd.snd.snd.snd, a4, Bool.false, [], [], [], 0, 0, Bool.false, [], [], [], 0, 0, [11],
 [], [], ()),
 a3.snd.snd.snd.fst, Bool.true, ()))
 Option.none fun d11 ↦
 Go.Proofs.Ytbdcblpjemmipaa.Ex.optC (Go.Proofs.Ytbdcblpjemmipaa.Ex.G_held_With (a3.snd.snd.snd.snd.fst, [d7.snd.snd.snd.snd.fst], ())) Option.none fun d12 ↦
 Go.Proofs.Ytbdcblpjemmipaa.Ex.optC (Go.Proofs.Ytbdcblpjemmipaa.Ex.G_held_With (a3.snd.snd.snd.snd.snd, [d7.snd.snd.snd.snd.fst], ())) Option.none fun d13 ↦
 Option.some ((a3.fst, a3.snd.fst, d10, d11, d12, d13), (Bool.false, [], [], [], 0, 0), [11], [], [])
 else
 Go.Proofs.Ytbdcblpjemmipaa.Ex.optC (Go.Proofs.Ytbdcblpjemmipaa.Ex.G_held_Has (a3.snd.snd.snd.snd.fst, d7.snd.snd.snd.snd.fst, ())) Option.none fun d9 ↦
 bif d9 then Option.some ((Bool.false, [], [], [], 0, 0), (Bool.false, [], [], [], 0, 0), [], [], [])
 else
 Go.Proofs.Ytbdcblpjemmipaa.Ex.optC
 (Go.Proofs.Ytbdcblpjemmipaa.Ex.G_flow_deed_gains
 ((d7.fst, d7.snd.fst, d7.snd.snd.fst, d7.snd.snd.snd.fst, d7.snd.snd.snd.snd.fst, d7.snd.snd.snd.snd.snd.fst, d7.snd.snd.snd.snd.snd.snd.fst,
 d7.snd.snd.snd.snd.snd.snd.snd.fst, d7.snd.snd.snd.snd.snd.snd.snd.snd, a0.fst, a0.snd.fst, a0.snd.snd.fst, a0.snd.snd.snd, a1, a2, a3.fst, a3.snd.fst,
 a3.snd.snd.fst, a3.snd.snd.snd.fst, a3.snd.snd.snd.snd.fst, a3.snd.snd.snd.snd.snd, a4, Bool.false, [], [], [], 0, 0, Bool.false, [], [], [], 0, 0, [], [],
 [], ()),
 a3.snd.snd.fst, Bool.false, ()))
 Option.none fun d10 ↦
 Go.Proofs.Ytbdcblpjemmipaa.Ex.optC
 (Go.Proofs.Ytbdcblpjemmipaa.Ex.G_flow_deed_gains
 ((d7.fst, d7.snd.fst, d7.snd.snd.fst, d7.snd.snd.snd.fst, d7.snd.snd.snd.snd.fst, d7.snd.snd.snd.snd.snd.fst, d7.snd.snd.snd.snd.snd.snd.fst,
 d7.snd.snd.snd.snd.snd.snd.snd.fst, d7.snd.snd.snd.snd.snd.snd.snd.snd, a0.fst, a0.snd.fst, a0.snd.snd.fst, a0.snd.snd.snd, a1, a2, a3.fst, a3.snd.fst,
 a3.snd.snd.fst, a3.snd.snd.snd.fst, a3.snd.snd.snd.snd.fst, a3.snd.snd.snd.snd.snd, a4, Bool.false, [], [], [], 0, 0, Bool.false, [], [], [], 0, 0, [],
 [], [], ()),
 a3.snd.snd.snd.fst, Bool.true, ()))
 Option.none fun d11 ↦
 Go.Proofs.Ytbdcblpjemmipaa.Ex.optC (Go.Proofs.Ytbdcblpjemmipaa.Ex.G_held_With (a3.snd.snd.snd.snd.fst, [d7.snd.snd.snd.snd.fst], ())) Option.none fun d12 ↦
 Go.Proofs.Ytbdcblpjemmipaa.Ex.optC (Go.Proofs.Ytbdcblpjemmipaa.Ex.G_held_With (a3.snd.snd.snd.snd.snd, [d7.snd.snd.snd.snd.fst], ())) Option.none fun d13 ↦
 Option.some ((a3.fst, a3.snd.fst, d10, d11, d12, d13), (Bool.false, [], [], [], 0, 0), [], [], [])
 else
 bif d7.fst == 10 then
 Go.Proofs.Ytbdcblpjemmipaa.Ex.optC (Go.Proofs.Ytbdcblpjemmipaa.Ex.G_held_Has (a3.snd.snd.snd.snd.fst, d7.snd.snd.snd.snd.fst, ())) Option.none fun d8 ↦
 bif !d8 then
 Go.Proofs.Ytbdcblpjemmipaa.Ex.optC (Go.Proofs.Ytbdcblpjemmipaa.Ex.G_held_Has (a3.snd.snd.snd.snd.snd, d7.snd.snd.snd.snd.fst, ())) Option.none fun d9 ↦
 bif !d9 then Option.some ((Bool.false, [], [], [], 0, 0), (Bool.false, [], [], [], 0, 0), [12], [], [])
 else
 Go.Proofs.Ytbdcblpjemmipaa.Ex.optC (Go.Proofs.Ytbdcblpjemmipaa.Ex.G_held_Without (a3.snd.snd.snd.snd.fst, [d7.snd.snd.snd.snd.fst], ())) Option.none fun d10 ↦
 Go.Proofs.Ytbdcblpjemmipaa.Ex.optC (Go.Proofs.Ytbdcblpjemmipaa.Ex.G_held_Without (a3.snd.snd.snd.snd.snd, [d7.snd.snd.snd.snd.fst], ())) Option.none fun d11 ↦
 Option.some ((a3.fst, a3.snd.fst, a3.snd.snd.fst, a3.snd.snd.snd.fst, d10, d11), (Bool.false, [], [], [], 0, 0), [12], [], [])
 else
 Go.Proofs.Ytbdcblpjemmipaa.Ex.optC (Go.Proofs.Ytbdcblpjemmipaa.Ex.G_held_Has (a3.snd.snd.snd.snd.snd, d7.snd.snd.snd.snd.fst, ())) Option.none fun d9 ↦
 bif !d9 then Option.some ((Bool.false, [], [], [], 0, 0), (Bool.false, [], [], [], 0, 0), [], [], [])
 else
 Go.Proofs.Ytbdcblpjemmipaa.Ex.optC (Go.Proofs.Ytbdcblpjemmipaa.Ex.G_held_Without (a3.snd.snd.snd.snd.fst, [d7.snd.snd.snd.snd.fst], ())) Option.none fun d10 ↦
 Go.Proofs.Ytbdcblpjemmipaa.Ex.optC (Go.Proofs.Ytbdcblpjemmipaa.Ex.G_held_Without (a3.snd.snd.snd.snd.snd, [d7.snd.snd.snd.snd.fst], ())) Option.none fun d11 ↦
 Option.some ((a3.fst, a3.snd.fst, a3.snd.snd.fst, a3.snd.snd.snd.fst, d10, d11), (Bool.false, [], [], [], 0, 0), [], [], [])
 else
 bif d7.fst == 11 then
 bif Decidable.decide (0 ≤ d7.snd.snd.fst) then
 Go.Proofs.Ytbdcblpjemmipaa.Ex.optC a3.snd.fst[Int.toNat d7.snd.snd.fst]? Option.none fun d8 ↦
 bif Decidable.decide (0 ≤ d7.snd.snd.snd.fst) then
 Go.Proofs.Ytbdcblpjemmipaa.Ex.optC a3.snd.fst[Int.toNat d7.snd.snd.snd.fst]? Option.none fun d9 ↦
 Go.Proofs.Ytbdcblpjemmipaa.Ex.optC (Go.Proofs.Ytbdcblpjemmipaa.Ex.G_itv_Refine (d7.snd.snd.snd.snd.snd.snd.fst, d8, d9, ())) Option.none fun d10 ↦
 bif d7.snd.snd.fst == d7.snd.snd.snd.fst then
 Go.Proofs.Ytbdcblpjemmipaa.Ex.optC (Go.Proofs.Ytbdcblpjemmipaa.Ex.G_itv_Meet (d10.fst, d10.snd.fst, ())) Option.none fun d11 ↦
 bif Decidable.decide (d11.fst > d11.snd) then
 Go.Proofs.Ytbdcblpjemmipaa.Ex.optC (Go.Proofs.Ytbdcblpjemmipaa.Ex.G_num_Not (d7.snd.snd.snd.snd.snd.snd.fst, ())) Option.none fun d12 ↦
 bif Decidable.decide (0 ≤ d7.snd.snd.fst) then
 Go.Proofs.Ytbdcblpjemmipaa.Ex.optC a3.snd.fst[Int.toNat d7.snd.snd.fst]? Option.none fun d13 ↦
 bif Decidable.decide (0 ≤ d7.snd.snd.snd.fst) then
 Go.Proofs.Ytbdcblpjemmipaa.Ex.optC a3.snd.fst[Int.toNat d7.snd.snd.snd.fst]? Option.none fun d14 ↦
 Go.Proofs.Ytbdcblpjemmipaa.Ex.optC (Go.Proofs.Ytbdcblpjemmipaa.Ex.G_itv_Refine (d12, d13, d14, ())) Option.none fun d15 ↦
 bif d7.snd.snd.fst == d7.snd.snd.snd.fst then
 Go.Proofs.Ytbdcblpjemmipaa.Ex.optC (Go.Proofs.Ytbdcblpjemmipaa.Ex.G_itv_Meet (d15.fst, d15.snd.fst, ())) Option.none fun d16 ↦
 bif Decidable.decide (d16.fst > d16.snd) then Option.some ((Bool.false, [], [], [], 0, 0), (Bool.false, [], [], [], 0, 0), [], [], [])
 else
 bif Decidable.decide (d16.fst > d16.snd) then Option.some ((Bool.false, [], [], [], 0, 0), (Bool.false, [], [], [], 0, 0), [], [], [])
 else
 bif Decidable.decide (((List.length (α := Go.Proofs.Ytbdcblpjemmipaa.Ex.I) []) + List.length a3.snd.fst + 1) * 16 ≤ Go.Proofs.Ytbdcblpjemmipaa.Ex.lim) then
 bif Decidable.decide (0 ≤ d7.snd.snd.fst) then
 Go.Proofs.Ytbdcblpjemmipaa.Ex.optC ([] ++ a3.snd.fst)[Int.toNat d7.snd.snd.fst]? Option.none fun d17 ↦
 Go.Proofs.Ytbdcblpjemmipaa.Ex.optC ([] ++ a3.snd.fst)[Int.toNat d7.snd.snd.fst]? Option.none fun d18 ↦
 bif Decidable.decide (0 ≤ d7.snd.snd.snd.fst) then
 Go.Proofs.Ytbdcblpjemmipaa.Ex.optC (([] ++ a3.snd.fst).set (Int.toNat d7.snd.snd.fst) d16)[Int.toNat d7.snd.snd.snd.fst]? Option.none fun d19 ↦
 Go.Proofs.Ytbdcblpjemmipaa.Ex.optC (([] ++ a3.snd.fst).set (Int.toNat d7.snd.snd.fst) d16)[Int.toNat d7.snd.snd.snd.fst]? Option.none fun d20 ↦
 Option.some
 ((Bool.false, [], [], [], 0, 0),
 (a3.fst, (([] ++ a3.snd.fst).set (Int.toNat d7.snd.snd.fst) d16).set (Int.toNat d7.snd.snd.snd.fst) d16,
 a3.snd.snd.fst, a3.snd.snd.snd.fst, a3.snd.snd.snd.snd.fst, a3.snd.snd.snd.snd.snd),
 [], [], [])
 else Option.none
 else Option.none
 else Option.none
 else
 bif Decidable.decide (d15.fst.fst > d15.fst.snd) then
 Option.some ((Bool.false, [], [], [], 0, 0), (Bool.false, [], [], [], 0, 0), [], [], [])
 else
 bif Decidable.decide (d15.snd.fst.fst > d15.snd.fst.snd) then
 Option.some ((Bool.false, [], [], [], 0, 0), (Bool.false, [], [], [], 0, 0), [], [], [])
 else
 bif Decidable.decide (((List.length (α := Go.Proofs.Ytbdcblpjemmipaa.Ex.I) []) + List.length a3.snd.fst + 1) * 16 ≤ Go.Proofs.Ytbdcblpjemmipaa.Ex.lim) then
 bif Decidable.decide (0 ≤ d7.snd.snd.fst) then
 Go.Proofs.Ytbdcblpjemmipaa.Ex.optC ([] ++ a3.snd.fst)[Int.toNat d7.snd.snd.fst]? Option.none fun d16 ↦
 Go.Proofs.Ytbdcblpjemmipaa.Ex.optC ([] ++ a3.snd.fst)[Int.toNat d7.snd.snd.fst]? Option.none fun d17 ↦
 bif Decidable.decide (0 ≤ d7.snd.snd.snd.fst) then
 Go.Proofs.Ytbdcblpjemmipaa.Ex.optC (([] ++ a3.snd.fst).set (Int.toNat d7.snd.snd.fst) d15.fst)[Int.toNat d7.snd.snd.snd.fst]? Option.none fun d18 ↦
 Go.Proofs.Ytbdcblpjemmipaa.Ex.optC (([] ++ a3.snd.fst).set (Int.toNat d7.snd.snd.fst) d15.fst)[Int.toNat d7.snd.snd.snd.fst]? Option.none
 fun d19 ↦
 Option.some
 ((Bool.false, [], [], [], 0, 0),
 (a3.fst, (([] ++ a3.snd.fst).set (Int.toNat d7.snd.snd.fst) d15.fst).set (Int.toNat d7.snd.snd.snd.fst) d15.snd.fst,
 a3.snd.snd.fst, a3.snd.snd.snd.fst, a3.snd.snd.snd.snd.fst, a3.snd.snd.snd.snd.snd),
 [], [], [])
 else Option.none
 else Option.none
 else Option.none
 else Option.none
 else Option.none
 else
 bif Decidable.decide (d11.fst > d11.snd) then
 Go.Proofs.Ytbdcblpjemmipaa.Ex.optC (Go.Proofs.Ytbdcblpjemmipaa.Ex.G_num_Not (d7.snd.snd.snd.snd.snd.snd.fst, ())) Option.none fun d12 ↦
 bif Decidable.decide (0 ≤ d7.snd.snd.fst) then
 Go.Proofs.Ytbdcblpjemmipaa.Ex.optC a3.snd.fst[Int.toNat d7.snd.snd.fst]? Option.none fun d13 ↦
 bif Decidable.decide (0 ≤ d7.snd.snd.snd.fst) then
 Go.Proofs.Ytbdcblpjemmipaa.Ex.optC a3.snd.fst[Int.toNat d7.snd.snd.snd.fst]? Option.none fun d14 ↦
 Go.Proofs.Ytbdcblpjemmipaa.Ex.optC (Go.Proofs.Ytbdcblpjemmipaa.Ex.G_itv_Refine (d12, d13, d14, ())) Option.none fun d15 ↦
 bif d7.snd.snd.fst == d7.snd.snd.snd.fst then
 Go.Proofs.Ytbdcblpjemmipaa.Ex.optC (Go.Proofs.Ytbdcblpjemmipaa.Ex.G_itv_Meet (d15.fst, d15.snd.fst, ())) Option.none fun d16 ↦
 bif Decidable.decide (d16.fst > d16.snd) then Option.some ((Bool.false, [], [], [], 0, 0), (Bool.false, [], [], [], 0, 0), [], [], [])
 else
 bif Decidable.decide (d16.fst > d16.snd) then
 Option.some ((Bool.false, [], [], [], 0, 0), (Bool.false, [], [], [], 0, 0), [], [], [])
 else
 bif Decidable.decide (((List.length (α := Go.Proofs.Ytbdcblpjemmipaa.Ex.I) []) + List.length a3.snd.fst + 1) * 16 ≤ Go.Proofs.Ytbdcblpjemmipaa.Ex.lim) then
 bif Decidable.decide (0 ≤ d7.snd.snd.fst) then
 Go.Proofs.Ytbdcblpjemmipaa.Ex.optC ([] ++ a3.snd.fst)[Int.toNat d7.snd.snd.fst]? Option.none fun d17 ↦
 Go.Proofs.Ytbdcblpjemmipaa.Ex.optC ([] ++ a3.snd.fst)[Int.toNat d7.snd.snd.fst]? Option.none fun d18 ↦
 bif Decidable.decide (0 ≤ d7.snd.snd.snd.fst) then
 Go.Proofs.Ytbdcblpjemmipaa.Ex.optC (([] ++ a3.snd.fst).set (Int.toNat d7.snd.snd.fst) d16)[Int.toNat d7.snd.snd.snd.fst]? Option.none fun d19 ↦
 Go.Proofs.Ytbdcblpjemmipaa.Ex.optC (([] ++ a3.snd.fst).set (Int.toNat d7.snd.snd.fst) d16)[Int.toNat d7.snd.snd.snd.fst]? Option.none
 fun d20 ↦
 Option.some
 ((Bool.false, [], [], [], 0, 0),
 (a3.fst, (([] ++ a3.snd.fst).set (Int.toNat d7.snd.snd.fst) d16).set (Int.toNat d7.snd.snd.snd.fst) d16,
 a3.snd.snd.fst, a3.snd.snd.snd.fst, a3.snd.snd.snd.snd.fst, a3.snd.snd.snd.snd.snd),
 [], [], [])
 else Option.none
 else Option.none
 else Option.none
 else
 bif Decidable.decide (d15.fst.fst > d15.fst.snd) then
 Option.some ((Bool.false, [], [], [], 0, 0), (Bool.false, [], [], [], 0, 0), [], [], [])
 else
 bif Decidable.decide (d15.snd.fst.fst > d15.snd.fst.snd) then
 Option.some ((Bool.false, [], [], [], 0, 0), (Bool.false, [], [], [], 0, 0), [], [], [])
 else
 bif Decidable.decide (((List.length (α := Go.Proofs.Ytbdcblpjemmipaa.Ex.I) []) + List.length a3.snd.fst + 1) * 16 ≤ Go.Proofs.Ytbdcblpjemmipaa.Ex.lim) then
 bif Decidable.decide (0 ≤ d7.snd.snd.fst) then
 Go.Proofs.Ytbdcblpjemmipaa.Ex.optC ([] ++ a3.snd.fst)[Int.toNat d7.snd.snd.fst]? Option.none fun d16 ↦
 Go.Proofs.Ytbdcblpjemmipaa.Ex.optC ([] ++ a3.snd.fst)[Int.toNat d7.snd.snd.fst]? Option.none fun d17 ↦
 bif Decidable.decide (0 ≤ d7.snd.snd.snd.fst) then
 Go.Proofs.Ytbdcblpjemmipaa.Ex.optC (([] ++ a3.snd.fst).set (Int.toNat d7.snd.snd.fst) d15.fst)[Int.toNat d7.snd.snd.snd.fst]? Option.none
 fun d18 ↦
 Go.Proofs.Ytbdcblpjemmipaa.Ex.optC (([] ++ a3.snd.fst).set (Int.toNat d7.snd.snd.fst) d15.fst)[Int.toNat d7.snd.snd.snd.fst]? Option.none
 fun d19 ↦
 Option.some
 ((Bool.false, [], [], [], 0, 0),
 (a3.fst,
 (([] ++ a3.snd.fst).set (Int.toNat d7.snd.snd.fst) d15.fst).set (Int.toNat d7.snd.snd.snd.fst) d15.snd.fst,
 a3.snd.snd.fst, a3.snd.snd.snd.fst, a3.snd.snd.snd.snd.fst, a3.snd.snd.snd.snd.snd),
 [], [], [])
 else Option.none
 else Option.none
 else Option.none
 else Option.none
 else Option.none
 else
 bif Decidable.decide (((List.length (α := Go.Proofs.Ytbdcblpjemmipaa.Ex.I) []) + List.length a3.snd.fst + 1) * 16 ≤ Go.Proofs.Ytbdcblpjemmipaa.Ex.lim) then
 bif Decidable.decide (0 ≤ d7.snd.snd.fst) then
 Go.Proofs.Ytbdcblpjemmipaa.Ex.optC ([] ++ a3.snd.fst)[Int.toNat d7.snd.snd.fst]? Option.none fun d12 ↦
 Go.Proofs.Ytbdcblpjemmipaa.Ex.optC ([] ++ a3.snd.fst)[Int.toNat d7.snd.snd.fst]? Option.none fun d13 ↦
 bif Decidable.decide (0 ≤ d7.snd.snd.snd.fst) then
 Go.Proofs.Ytbdcblpjemmipaa.Ex.optC (([] ++ a3.snd.fst).set (Int.toNat d7.snd.snd.fst) d11)[Int.toNat d7.snd.snd.snd.fst]? Option.none fun d14 ↦
 Go.Proofs.Ytbdcblpjemmipaa.Ex.optC (([] ++ a3.snd.fst).set (Int.toNat d7.snd.snd.fst) d11)[Int.toNat d7.snd.snd.snd.fst]? Option.none fun d15 ↦
 Go.Proofs.Ytbdcblpjemmipaa.Ex.optC (Go.Proofs.Ytbdcblpjemmipaa.Ex.G_num_Not (d7.snd.snd.snd.snd.snd.snd.fst, ())) Option.none fun d16 ↦
 bif Decidable.decide (0 ≤ d7.snd.snd.fst) then
 Go.Proofs.Ytbdcblpjemmipaa.Ex.optC a3.snd.fst[Int.toNat d7.snd.snd.fst]? Option.none fun d17 ↦
 bif Decidable.decide (0 ≤ d7.snd.snd.snd.fst) then
 Go.Proofs.Ytbdcblpjemmipaa.Ex.optC a3.snd.fst[Int.toNat d7.snd.snd.snd.fst]? Option.none fun d18 ↦
 Go.Proofs.Ytbdcblpjemmipaa.Ex.optC (Go.Proofs.Ytbdcblpjemmipaa.Ex.G_itv_Refine (d16, d17, d18, ())) Option.none fun d19 ↦
 bif d7.snd.snd.fst == d7.snd.snd.snd.fst then
 Go.Proofs.Ytbdcblpjemmipaa.Ex.optC (Go.Proofs.Ytbdcblpjemmipaa.Ex.G_itv_Meet (d19.fst, d19.snd.fst, ())) Option.none fun d20 ↦
 bif Decidable.decide (d20.fst > d20.snd) then
 Option.some
 ((a3.fst, (([] ++ a3.snd.fst).set (Int.toNat d7.snd.snd.fst) d11).set (Int.toNat d7.snd.snd.snd.fst) d11,
 a3.snd.snd.fst, a3.snd.snd.snd.fst, a3.snd.snd.snd.snd.fst, a3.snd.snd.snd.snd.snd),
 (Bool.false, [], [], [], 0, 0), [], [], [])
 else
 bif Decidable.decide (d20.fst > d20.snd) then
 Option.some
 ((a3.fst, (([] ++ a3.snd.fst).set (Int.toNat d7.snd.snd.fst) d11).set (Int.toNat d7.snd.snd.snd.fst) d11,
 a3.snd.snd.fst, a3.snd.snd.snd.fst, a3.snd.snd.snd.snd.fst, a3.snd.snd.snd.snd.snd),
 (Bool.false, [], [], [], 0, 0), [], [], [])
 else
 bif Decidable.decide (((List.length (α := Go.Proofs.Ytbdcblpjemmipaa.Ex.I) []) + List.length a3.snd.fst + 1) * 16 ≤ Go.Proofs.Ytbdcblpjemmipaa.Ex.lim) then
 bif Decidable.decide (0 ≤ d7.snd.snd.fst) then
 Go.Proofs.Ytbdcblpjemmipaa.Ex.optC ([] ++ a3.snd.fst)[Int.toNat d7.snd.snd.fst]? Option.none fun d21 ↦
 Go.Proofs.Ytbdcblpjemmipaa.Ex.optC ([] ++ a3.snd.fst)[Int.toNat d7.snd.snd.fst]? Option.none fun d22 ↦
 bif Decidable.decide (0 ≤ d7.snd.snd.snd.fst) then
 Go.Proofs.Ytbdcblpjemmipaa.Ex.optC (([] ++ a3.snd.fst).set (Int.toNat d7.snd.snd.fst) d20)[Int.toNat d7.snd.snd.snd.fst]?
 Option.none fun d23 ↦
 Go.Proofs.Ytbdcblpjemmipaa.Ex.optC (([] ++ a3.snd.fst).set (Int.toNat d7.snd.snd.fst) d20)[Int.toNat d7.snd.snd.snd.fst]?
 Option.none fun d24 ↦
 Option.some
 ((a3.fst,
 (([] ++ a3.snd.fst).set (Int.toNat d7.snd.snd.fst) d11).set (Int.toNat d7.snd.snd.snd.fst) d11,
 a3.snd.snd.fst, a3.snd.snd.snd.fst, a3.snd.snd.snd.snd.fst, a3.snd.snd.snd.snd.snd),
 (a3.fst,
 (([] ++ a3.snd.fst).set (Int.toNat d7.snd.snd.fst) d20).set (Int.toNat d7.snd.snd.snd.fst) d20,
 a3.snd.snd.fst, a3.snd.snd.snd.fst, a3.snd.snd.snd.snd.fst, a3.snd.snd.snd.snd.snd),
 [], [], [])
 else Option.none
 else Option.none
 else Option.none
 else
 bif Decidable.decide (d19.fst.fst > d19.fst.snd) then
 Option.some
 ((a3.fst, (([] ++ a3.snd.fst).set (Int.toNat d7.snd.snd.fst) d11).set (Int.toNat d7.snd.snd.snd.fst) d11,
 a3.snd.snd.fst, a3.snd.snd.snd.fst, a3.snd.snd.snd.snd.fst, a3.snd.snd.snd.snd.snd),
 (Bool.false, [], [], [], 0, 0), [], [], [])
 else
 bif Decidable.decide (d19.snd.fst.fst > d19.snd.fst.snd) then
 Option.some
 ((a3.fst, (([] ++ a3.snd.fst).set (Int.toNat d7.snd.snd.fst) d11).set (Int.toNat d7.snd.snd.snd.fst) d11,
 a3.snd.snd.fst, a3.snd.snd.snd.fst, a3.snd.snd.snd.snd.fst, a3.snd.snd.snd.snd.snd),
 (Bool.false, [], [], [], 0, 0), [], [], [])
 else
 bif Decidable.decide (((List.length (α := Go.Proofs.Ytbdcblpjemmipaa.Ex.I) []) + List.length a3.snd.fst + 1) * 16 ≤ Go.Proofs.Ytbdcblpjemmipaa.Ex.lim) then
 bif Decidable.decide (0 ≤ d7.snd.snd.fst) then
 Go.Proofs.Ytbdcblpjemmipaa.Ex.optC ([] ++ a3.snd.fst)[Int.toNat d7.snd.snd.fst]? Option.none fun d20 ↦
 Go.Proofs.Ytbdcblpjemmipaa.Ex.optC ([] ++ a3.snd.fst)[Int.toNat d7.snd.snd.fst]? Option.none fun d21 ↦
 bif Decidable.decide (0 ≤ d7.snd.snd.snd.fst) then
 Go.Proofs.Ytbdcblpjemmipaa.Ex.optC (([] ++ a3.snd.fst).set (Int.toNat d7.snd.snd.fst) d19.fst)[Int.toNat d7.snd.snd.snd.fst]?
 Option.none fun d22 ↦
 Go.Proofs.Ytbdcblpjemmipaa.Ex.optC (([] ++ a3.snd.fst).set (Int.toNat d7.snd.snd.fst) d19.fst)[Int.toNat d7.snd.snd.snd.fst]?
 Option.none fun d23 ↦
 Option.some
 ((a3.fst,
 (([] ++ a3.snd.fst).set (Int.toNat d7.snd.snd.fst) d11).set (Int.toNat d7.snd.snd.snd.fst) d11,
 a3.snd.snd.fst, a3.snd.snd.snd.fst, a3.snd.snd.snd.snd.fst, a3.snd.snd.snd.snd.snd),
 (a3.fst,
 (([] ++ a3.snd.fst).set (Int.toNat d7.snd.snd.fst) d19.fst).set (Int.toNat d7.snd.snd.snd.fst)
 d19.snd.fst,
 a3.snd.snd.fst, a3.snd.snd.snd.fst, a3.snd.snd.snd.snd.fst, a3.snd.snd.snd.snd.snd),
 [], [], [])
 else Option.none
 else Option.none
 else Option.none
 else Option.none
 else Option.none
 else Option.none
 else Option.none
 else Option.none
 else
 bif Decidable.decide (d10.fst.fst > d10.fst.snd) then
 Go.Proofs.Ytbdcblpjemmipaa.Ex.optC (Go.Proofs.Ytbdcblpjemmipaa.Ex.G_num_Not (d7.snd.snd.snd.snd.snd.snd.fst, ())) Option.none fun d11 ↦
 bif Decidable.decide (0 ≤ d7.snd.snd.fst) then
 Go.Proofs.Ytbdcblpjemmipaa.Ex.optC a3.snd.fst[Int.toNat d7.snd.snd.fst]? Option.none fun d12 ↦
 bif Decidable.decide (0 ≤ d7.snd.snd.snd.fst) then
 Go.Proofs.Ytbdcblpjemmipaa.Ex.optC a3.snd.fst[Int.toNat d7.snd.snd.snd.fst]? Option.none fun d13 ↦
 Go.Proofs.Ytbdcblpjemmipaa.Ex.optC (Go.Proofs.Ytbdcblpjemmipaa.Ex.G_itv_Refine (d11, d12, d13, ())) Option.none fun d14 ↦
 bif d7.snd.snd.fst == d7.snd.snd.snd.fst then
 Go.Proofs.Ytbdcblpjemmipaa.Ex.optC (Go.Proofs.Ytbdcblpjemmipaa.Ex.G_itv_Meet (d14.fst, d14.snd.fst, ())) Option.none fun d15 ↦
 bif Decidable.decide (d15.fst > d15.snd) then Option.some ((Bool.false, [], [], [], 0, 0), (Bool.false, [], [], [], 0, 0), [], [], [])
 else
 bif Decidable.decide (d15.fst > d15.snd) then Option.some ((Bool.false, [], [], [], 0, 0), (Bool.false, [], [], [], 0, 0), [], [], [])
 else
 bif Decidable.decide (((List.length (α := Go.Proofs.Ytbdcblpjemmipaa.Ex.I) []) + List.length a3.snd.fst + 1) * 16 ≤ Go.Proofs.Ytbdcblpjemmipaa.Ex.lim) then
 bif Decidable.decide (0 ≤ d7.snd.snd.fst) then
 Go.Proofs.Ytbdcblpjemmipaa.Ex.optC ([] ++ a3.snd.fst)[Int.toNat d7.snd.snd.fst]? Option.none fun d16 ↦
 Go.Proofs.Ytbdcblpjemmipaa.Ex.optC ([] ++ a3.snd.fst)[Int.toNat d7.snd.snd.fst]? Option.none fun d17 ↦
 bif Decidable.decide (0 ≤ d7.snd.snd.snd.fst) then
 Go.Proofs.Ytbdcblpjemmipaa.Ex.optC (([] ++ a3.snd.fst).set (Int.toNat d7.snd.snd.fst) d15)[Int.toNat d7.snd.snd.snd.fst]? Option.none fun d18 ↦
 Go.Proofs.Ytbdcblpjemmipaa.Ex.optC (([] ++ a3.snd.fst).set (Int.toNat d7.snd.snd.fst) d15)[Int.toNat d7.snd.snd.snd.fst]? Option.none fun d19 ↦
 Option.some
 ((Bool.false, [], [], [], 0, 0),
 (a3.fst, (([] ++ a3.snd.fst).set (Int.toNat d7.snd.snd.fst) d15).set (Int.toNat d7.snd.snd.snd.fst) d15,
 a3.snd.snd.fst, a3.snd.snd.snd.fst, a3.snd.snd.snd.snd.fst, a3.snd.snd.snd.snd.snd),
 [], [], [])
 else Option.none
 else Option.none
 else Option.none
 else
 bif Decidable.decide (d14.fst.fst > d14.fst.snd) then
 Option.some ((Bool.false, [], [], [], 0, 0), (Bool.false, [], [], [], 0, 0), [], [], [])
 else
 bif Decidable.decide (d14.snd.fst.fst > d14.snd.fst.snd) then
 Option.some ((Bool.false, [], [], [], 0, 0), (Bool.false, [], [], [], 0, 0), [], [], [])
 else
 bif Decidable.decide (((List.length (α := Go.Proofs.Ytbdcblpjemmipaa.Ex.I) []) + List.length a3.snd.fst + 1) * 16 ≤ Go.Proofs.Ytbdcblpjemmipaa.Ex.lim) then
 bif Decidable.decide (0 ≤ d7.snd.snd.fst) then
 Go.Proofs.Ytbdcblpjemmipaa.Ex.optC ([] ++ a3.snd.fst)[Int.toNat d7.snd.snd.fst]? Option.none fun d15 ↦
 Go.Proofs.Ytbdcblpjemmipaa.Ex.optC ([] ++ a3.snd.fst)[Int.toNat d7.snd.snd.fst]? Option.none fun d16 ↦
 bif Decidable.decide (0 ≤ d7.snd.snd.snd.fst) then
 Go.Proofs.Ytbdcblpjemmipaa.Ex.optC (([] ++ a3.snd.fst).set (Int.toNat d7.snd.snd.fst) d14.fst)[Int.toNat d7.snd.snd.snd.fst]? Option.none fun d17 ↦
 Go.Proofs.Ytbdcblpjemmipaa.Ex.optC (([] ++ a3.snd.fst).set (Int.toNat d7.snd.snd.fst) d14.fst)[Int.toNat d7.snd.snd.snd.fst]? Option.none fun d18 ↦
 Option.some
 ((Bool.false, [], [], [], 0, 0),
 (a3.fst, (([] ++ a3.snd.fst).set (Int.toNat d7.snd.snd.fst) d14.fst).set (Int.toNat d7.snd.snd.snd.fst) d14.snd.fst,
 a3.snd.snd.fst, a3.snd.snd.snd.fst, a3.snd.snd.snd.snd.fst, a3.snd.snd.snd.snd.snd),
 [], [], [])
 else Option.none
 else Option.none
 else Option.none
 else Option.none
 else Option.none
 else
 bif Decidable.decide (d10.snd.fst.fst > d10.snd.fst.snd) then
 Go.Proofs.Ytbdcblpjemmipaa.Ex.optC (Go.Proofs.Ytbdcblpjemmipaa.Ex.G_num_Not (d7.snd.snd.snd.snd.snd.snd.fst, ())) Option.none fun d11 ↦
 bif Decidable.decide (0 ≤ d7.snd.snd.fst) then
 Go.Proofs.Ytbdcblpjemmipaa.Ex.optC a3.snd.fst[Int.toNat d7.snd.snd.fst]? Option.none fun d12 ↦
 bif Decidable.decide (0 ≤ d7.snd.snd.snd.fst) then
 Go.Proofs.Ytbdcblpjemmipaa.Ex.optC a3.snd.fst[Int.toNat d7.snd.snd.snd.fst]? Option.none fun d13 ↦
 Go.Proofs.Ytbdcblpjemmipaa.Ex.optC (Go.Proofs.Ytbdcblpjemmipaa.Ex.G_itv_Refine (d11, d12, d13, ())) Option.none fun d14 ↦
 bif d7.snd.snd.fst == d7.snd.snd.snd.fst then
 Go.Proofs.Ytbdcblpjemmipaa.Ex.optC (Go.Proofs.Ytbdcblpjemmipaa.Ex.G_itv_Meet (d14.fst, d14.snd.fst, ())) Option.none fun d15 ↦
 bif Decidable.decide (d15.fst > d15.snd) then Option.some ((Bool.false, [], [], [], 0, 0), (Bool.false, [], [], [], 0, 0), [], [], [])
 else
 bif Decidable.decide (d15.fst > d15.snd) then Option.some ((Bool.false, [], [], [], 0, 0), (Bool.false, [], [], [], 0, 0), [], [], [])
 else
 bif Decidable.decide (((List.length (α := Go.Proofs.Ytbdcblpjemmipaa.Ex.I) []) + List.length a3.snd.fst + 1) * 16 ≤ Go.Proofs.Ytbdcblpjemmipaa.Ex.lim) then
 bif Decidable.decide (0 ≤ d7.snd.snd.fst) then
 Go.Proofs.Ytbdcblpjemmipaa.Ex.optC ([] ++ a3.snd.fst)[Int.toNat d7.snd.snd.fst]? Option.none fun d16 ↦
 Go.Proofs.Ytbdcblpjemmipaa.Ex.optC ([] ++ a3.snd.fst)[Int.toNat d7.snd.snd.fst]? Option.none fun d17 ↦
 bif Decidable.decide (0 ≤ d7.snd.snd.snd.fst) then
 Go.Proofs.Ytbdcblpjemmipaa.Ex.optC (([] ++ a3.snd.fst).set (Int.toNat d7.snd.snd.fst) d15)[Int.toNat d7.snd.snd.snd.fst]? Option.none fun d18 ↦
 Go.Proofs.Ytbdcblpjemmipaa.Ex.optC (([] ++ a3.snd.fst).set (Int.toNat d7.snd.snd.fst) d15)[Int.toNat d7.snd.snd.snd.fst]? Option.none fun d19 ↦
 Option.some
 ((Bool.false, [], [], [], 0, 0),
 (a3.fst, (([] ++ a3.snd.fst).set (Int.toNat d7.snd.snd.fst) d15).set (Int.toNat d7.snd.snd.snd.fst) d15,
 a3.snd.snd.fst, a3.snd.snd.snd.fst, a3.snd.snd.snd.snd.fst, a3.snd.snd.snd.snd.snd),
 [], [], [])
 else Option.none
 else Option.none
 else Option.none
 else
 bif Decidable.decide (d14.fst.fst > d14.fst.snd) then
 Option.some ((Bool.false, [], [], [], 0, 0), (Bool.false, [], [], [], 0, 0), [], [], [])
 else
 bif Decidable.decide (d14.snd.fst.fst > d14.snd.fst.snd) then
 Option.some ((Bool.false, [], [], [], 0, 0), (Bool.false, [], [], [], 0, 0), [], [], [])
 else
 bif Decidable.decide (((List.length (α := Go.Proofs.Ytbdcblpjemmipaa.Ex.I) []) + List.length a3.snd.fst + 1) * 16 ≤ Go.Proofs.Ytbdcblpjemmipaa.Ex.lim) then
 bif Decidable.decide (0 ≤ d7.snd.snd.fst) then
 Go.Proofs.Ytbdcblpjemmipaa.Ex.optC ([] ++ a3.snd.fst)[Int.toNat d7.snd.snd.fst]? Option.none fun d15 ↦
 Go.Proofs.Ytbdcblpjemmipaa.Ex.optC ([] ++ a3.snd.fst)[Int.toNat d7.snd.snd.fst]? Option.none fun d16 ↦
 bif Decidable.decide (0 ≤ d7.snd.snd.snd.fst) then
 Go.Proofs.Ytbdcblpjemmipaa.Ex.optC (([] ++ a3.snd.fst).set (Int.toNat d7.snd.snd.fst) d14.fst)[Int.toNat d7.snd.snd.snd.fst]? Option.none fun d17 ↦
 Go.Proofs.Ytbdcblpjemmipaa.Ex.optC (([] ++ a3.snd.fst).set (Int.toNat d7.snd.snd.fst) d14.fst)[Int.toNat d7.snd.snd.snd.fst]? Option.none
 fun d18 ↦
 Option.some
 ((Bool.false, [], [], [], 0, 0),
 (a3.fst, (([] ++ a3.snd.fst).set (Int.toNat d7.snd.snd.fst) d14.fst).set (Int.toNat d7.snd.snd.snd.fst) d14.snd.fst,
 a3.snd.snd.fst, a3.snd.snd.snd.fst, a3.snd.snd.snd.snd.fst, a3.snd.snd.snd.snd.snd),
 [], [], [])
 else Option.none
 else Option.none
 else Option.none
 else Option.none
 else Option.none
 else
 bif Decidable.decide (((List.length (α := Go.Proofs.Ytbdcblpjemmipaa.Ex.I) []) + List.length a3.snd.fst + 1) * 16 ≤ Go.Proofs.Ytbdcblpjemmipaa.Ex.lim) then
 bif Decidable.decide (0 ≤ d7.snd.snd.fst) then
 Go.Proofs.Ytbdcblpjemmipaa.Ex.optC ([] ++ a3.snd.fst)[Int.toNat d7.snd.snd.fst]? Option.none fun d11 ↦
 Go.Proofs.Ytbdcblpjemmipaa.Ex.optC ([] ++ a3.snd.fst)[Int.toNat d7.snd.snd.fst]? Option.none fun d12 ↦
 bif Decidable.decide (0 ≤ d7.snd.snd.snd.fst) then
 Go.Proofs.Ytbdcblpjemmipaa.Ex.optC (([] ++ a3.snd.fst).set (Int.toNat d7.snd.snd.fst) d10.fst)[Int.toNat d7.snd.snd.snd.fst]? Option.none fun d13 ↦
 Go.Proofs.Ytbdcblpjemmipaa.Ex.optC (([] ++ a3.snd.fst).set (Int.toNat d7.snd.snd.fst) d10.fst)[Int.toNat d7.snd.snd.snd.fst]? Option.none fun d14 ↦
 Go.Proofs.Ytbdcblpjemmipaa.Ex.optC (Go.Proofs.Ytbdcblpjemmipaa.Ex.G_num_Not (d7.snd.snd.snd.snd.snd.snd.fst, ())) Option.none fun d15 ↦
 bif Decidable.decide (0 ≤ d7.snd.snd.fst) then
 Go.Proofs.Ytbdcblpjemmipaa.Ex.optC a3.snd.fst[Int.toNat d7.snd.snd.fst]? Option.none fun d16 ↦
 bif Decidable.decide (0 ≤ d7.snd.snd.snd.fst) then
 Go.Proofs.Ytbdcblpjemmipaa.Ex.optC a3.snd.fst[Int.toNat d7.snd.snd.snd.fst]? Option.none fun d17 ↦
 Go.Proofs.Ytbdcblpjemmipaa.Ex.optC (Go.Proofs.Ytbdcblpjemmipaa.Ex.G_itv_Refine (d15, d16, d17, ())) Option.none fun d18 ↦
 bif d7.snd.snd.fst == d7.snd.snd.snd.fst then
 Go.Proofs.Ytbdcblpjemmipaa.Ex.optC (Go.Proofs.Ytbdcblpjemmipaa.Ex.G_itv_Meet (d18.fst, d18.snd.fst, ())) Option.none fun d19 ↦
 bif Decidable.decide (d19.fst > d19.snd) then
 Option.some
 ((a3.fst, (([] ++ a3.snd.fst).set (Int.toNat d7.snd.snd.fst) d10.fst).set (Int.toNat d7.snd.snd.snd.fst) d10.snd.fst,
 a3.snd.snd.fst, a3.snd.snd.snd.fst, a3.snd.snd.snd.snd.fst, a3.snd.snd.snd.snd.snd),
 (Bool.false, [], [], [], 0, 0), [], [], [])
 else
 bif Decidable.decide (d19.fst > d19.snd) then
 Option.some
 ((a3.fst,
 (([] ++ a3.snd.fst).set (Int.toNat d7.snd.snd.fst) d10.fst).set (Int.toNat d7.snd.snd.snd.fst) d10.snd.fst,
 a3.snd.snd.fst, a3.snd.snd.snd.fst, a3.snd.snd.snd.snd.fst, a3.snd.snd.snd.snd.snd),
 (Bool.false, [], [], [], 0, 0), [], [], [])
 else
 bif Decidable.decide (((List.length (α := Go.Proofs.Ytbdcblpjemmipaa.Ex.I) []) + List.length a3.snd.fst + 1) * 16 ≤ Go.Proofs.Ytbdcblpjemmipaa.Ex.lim) then
 bif Decidable.decide (0 ≤ d7.snd.snd.fst) then
 Go.Proofs.Ytbdcblpjemmipaa.Ex.optC ([] ++ a3.snd.fst)[Int.toNat d7.snd.snd.fst]? Option.none fun d20 ↦
 Go.Proofs.Ytbdcblpjemmipaa.Ex.optC ([] ++ a3.snd.fst)[Int.toNat d7.snd.snd.fst]? Option.none fun d21 ↦
 bif Decidable.decide (0 ≤ d7.snd.snd.snd.fst) then
 Go.Proofs.Ytbdcblpjemmipaa.Ex.optC (([] ++ a3.snd.fst).set (Int.toNat d7.snd.snd.fst) d19)[Int.toNat d7.snd.snd.snd.fst]?
 Option.none fun d22 ↦
 Go.Proofs.Ytbdcblpjemmipaa.Ex.optC (([] ++ a3.snd.fst).set (Int.toNat d7.snd.snd.fst) d19)[Int.toNat d7.snd.snd.snd.fst]?
 Option.none fun d23 ↦
 Option.some
 ((a3.fst,
 (([] ++ a3.snd.fst).set (Int.toNat d7.snd.snd.fst) d10.fst).set (Int.toNat d7.snd.snd.snd.fst)
 d10.snd.fst,
 a3.snd.snd.fst, a3.snd.snd.snd.fst, a3.snd.snd.snd.snd.fst, a3.snd.snd.snd.snd.snd),
 (a3.fst,
 (([] ++ a3.snd.fst).set (Int.toNat d7.snd.snd.fst) d19).set (Int.toNat d7.snd.snd.snd.fst) d19,
 a3.snd.snd.fst, a3.snd.snd.snd.fst, a3.snd.snd.snd.snd.fst, a3.snd.snd.snd.snd.snd),
 [], [], [])
 else Option.none
 else Option.none
 else Option.none
 else
 bif Decidable.decide (d18.fst.fst > d18.fst.snd) then
 Option.some
 ((a3.fst, (([] ++ a3.snd.fst).set (Int.toNat d7.snd.snd.fst) d10.fst).set (Int.toNat d7.snd.snd.snd.fst) d10.snd.fst,
 a3.snd.snd.fst, a3.snd.snd.snd.fst, a3.snd.snd.snd.snd.fst, a3.snd.snd.snd.snd.snd),
 (Bool.false, [], [], [], 0, 0), [], [], [])
 else
 bif Decidable.decide (d18.snd.fst.fst > d18.snd.fst.snd) then
 Option.some
 ((a3.fst, (([] ++ a3.snd.fst).set (Int.toNat d7.snd.snd.fst) d10.fst).set (Int.toNat d7.snd.snd.snd.fst) d10.snd.fst,
 a3.snd.snd.fst, a3.snd.snd.snd.fst, a3.snd.snd.snd.snd.fst, a3.snd.snd.snd.snd.snd),
 (Bool.false, [], [], [], 0, 0), [], [], [])
 else
 bif Decidable.decide (((List.length (α := Go.Proofs.Ytbdcblpjemmipaa.Ex.I) []) + List.length a3.snd.fst + 1) * 16 ≤ Go.Proofs.Ytbdcblpjemmipaa.Ex.lim) then
 bif Decidable.decide (0 ≤ d7.snd.snd.fst) then
 Go.Proofs.Ytbdcblpjemmipaa.Ex.optC ([] ++ a3.snd.fst)[Int.toNat d7.snd.snd.fst]? Option.none fun d19 ↦
 Go.Proofs.Ytbdcblpjemmipaa.Ex.optC ([] ++ a3.snd.fst)[Int.toNat d7.snd.snd.fst]? Option.none fun d20 ↦
 bif Decidable.decide (0 ≤ d7.snd.snd.snd.fst) then
 Go.Proofs.Ytbdcblpjemmipaa.Ex.optC (([] ++ a3.snd.fst).set (Int.toNat d7.snd.snd.fst) d18.fst)[Int.toNat d7.snd.snd.snd.fst]?
 Option.none fun d21 ↦
 Go.Proofs.Ytbdcblpjemmipaa.Ex.optC (([] ++ a3.snd.fst).set (Int.toNat d7.snd.snd.fst) d18.fst)[Int.toNat d7.snd.snd.snd.fst]?
 Option.none fun d22 ↦
 Option.some
 ((a3.fst,
 (([] ++ a3.snd.fst).set (Int.toNat d7.snd.snd.fst) d10.fst).set (Int.toNat d7.snd.snd.snd.fst)
 d10.snd.fst,
 a3.snd.snd.fst, a3.snd.snd.snd.fst, a3.snd.snd.snd.snd.fst, a3.snd.snd.snd.snd.snd),
 (a3.fst,
 (([] ++ a3.snd.fst).set (Int.toNat d7.snd.snd.fst) d18.fst).set (Int.toNat d7.snd.snd.snd.fst)
 d18.snd.fst,
 a3.snd.snd.fst, a3.snd.snd.snd.fst, a3.snd.snd.snd.snd.fst, a3.snd.snd.snd.snd.snd),
 [], [], [])
 else Option.none
 else Option.none
 else Option.none
 else Option.none
 else Option.none
 else Option.none
 else Option.none
 else Option.none
 else Option.none
 else Option.none
 else
 bif d7.fst == 12 then
 Option.some ((a3.fst, a3.snd.fst, a3.snd.snd.fst, a3.snd.snd.snd.fst, a3.snd.snd.snd.snd.fst, a3.snd.snd.snd.snd.snd), (Bool.false, [], [], [], 0, 0), [], [], [])
 else
 bif d7.fst == 13 then Option.some ((Bool.false, [], [], [], 0, 0), (Bool.false, [], [], [], 0, 0), [10], [], [])
 else Option.some ((Bool.false, [], [], [], 0, 0), (Bool.false, [], [], [], 0, 0), [], [], [])
 else Option.some ((Bool.false, [], [], [], 0, 0), (Bool.false, [], [], [], 0, 0), [], [], [])
 else Option.none
 else Option.none
theorem raw_flow_Do (a0 : U) (a1 : Int) (a2 : Int) (a3 : E) (a4 : (List En)) : evGX cx_flow_Do keeps 8 33 ash_flow_Do (.dat tO) ((a0, a1, a2, a3, a4, ()) : (U × (Int × (Int × (E × ((List En) × Unit)))))) = g_flow_Do a0 a1 a2 a3 a4 := by kernel_rfl
noncomputable def G_flow_Do (x : (U × (Int × (Int × (E × ((List En) × Unit)))))) : Option O := g_flow_Do x.1 x.2.1 x.2.2.1 x.2.2.2.1 x.2.2.2.2.1
noncomputable def con_flow_Do : List AV → Prog AV := conP true ash_flow_Do (.dat tO) G_flow_Do
theorem snd_flow_Do : SoundA Try.prog 33 con_flow_Do := conP_sound (cal_flow_Do 33) true (by rfl) (by rfl) (fun x r e => (evGX_eq _ _ _ _ _ _ _).trans ((raw_flow_Do x.1 x.2.1 x.2.2.1 x.2.2.2.1 x.2.2.2.2.1).trans e)) (.inl rfl)
end Go.Proofs.Ytbdcblpjemmipaa.Ex

/- meddler/meddlerref2.One: what it makes of data. -/
namespace Go.Proofs.Ytbdcblpjemmipaa.Ex
open Go.Proofs Go.Proofs.Ytbdcblpjemmipaa
set_option maxRecDepth 100000
set_option maxHeartbeats 2000000
set_option linter.unusedVariables false
set_option linter.unusedSimpArgs false
def ash_ref2_One : List Sh := [.dat (.int .i64)]
noncomputable def sp_ref2_One : Nat → Option (List AV → Prog AV)
  | _ => none
theorem hsp_ref2_One : ∀ g p, sp_ref2_One g = some p → SoundA Try.prog g p := by
  intro g p h
  unfold sp_ref2_One at h
  split at h
  · cases h
noncomputable def cx_ref2_One : Ctx := { tab := tab, spec := sp_ref2_One, inl := inl, lps := fun _ _ => none, fuel := 40 }
theorem in_ref2_One : InlOk Try.prog cx_ref2_One := ⟨inl_ok, fun _ _ _ _ _ _ _ _ h => nomatch h⟩
theorem cal_ref2_One (g : Nat) : SoundA Try.prog g (evF cx_ref2_One keeps 8 g) := evF_sound (tabOk_of tab_ok) (cmpsOk_of tab_ok cmps_ok) mixed in_ref2_One hsp_ref2_One keeps 8 g
noncomputable def g_ref2_One (a0 : Int) : Option I :=
  Option.some (a0, a0)
theorem raw_ref2_One (a0 : Int) : evGX cx_ref2_One keeps 8 73 ash_ref2_One (.dat tI) ((a0, ()) : (Int × Unit)) = g_ref2_One a0 := by kernel_rfl
noncomputable def G_ref2_One (x : (Int × Unit)) : Option I := g_ref2_One x.1
noncomputable def con_ref2_One : List AV → Prog AV := conP true ash_ref2_One (.dat tI) G_ref2_One
theorem snd_ref2_One : SoundA Try.prog 73 con_ref2_One := conP_sound (cal_ref2_One 73) true (by rfl) (by rfl) (fun x r e => (evGX_eq _ _ _ _ _ _ _).trans ((raw_ref2_One x.1).trans e)) (.inl rfl)
end Go.Proofs.Ytbdcblpjemmipaa.Ex

/- meddler/meddlerlaw13.known: what it makes of data. -/
namespace Go.Proofs.Ytbdcblpjemmipaa.Ex
open Go.Proofs Go.Proofs.Ytbdcblpjemmipaa
set_option maxRecDepth 100000
set_option maxHeartbeats 2000000
set_option linter.unusedVariables false
set_option linter.unusedSimpArgs false
def ash_law13_known : List Sh := []
noncomputable def sp_law13_known : Nat → Option (List AV → Prog AV)
  | 101 => some (con_itv_Of)
  | 102 => some (con_itv_All)
  | 35 => some (con_flow_Read)
  | 110 => some (con_num_Not)
  | 136 => some (con_itv_Refine)
  | 132 => some (con_itv_Meet)
  | 92 => some (con_itv_Empty)
  | 137 => some (con_env_None)
  | 131 => some (con_slices_Clone_Itv)
  | 48 => some (con_held_Has)
  | 135 => some (con_held_Without)
  | 133 => some (con_flow_deed_gains)
  | 134 => some (con_held_With)
  | 61 => some (con_itv_Leq)
  | 55 => some (con_itv_Join)
  | 129 => some (con_itv_Do)
  | 73 => some (con_ref2_One)
  | _ => none
theorem hsp_law13_known : ∀ g p, sp_law13_known g = some p → SoundA Try.prog g p := by
  intro g p h
  unfold sp_law13_known at h
  split at h
  · cases h; exact snd_itv_Of
  · cases h; exact snd_itv_All
  · cases h; exact snd_flow_Read
  · cases h; exact snd_num_Not
  · cases h; exact snd_itv_Refine
  · cases h; exact snd_itv_Meet
  · cases h; exact snd_itv_Empty
  · cases h; exact snd_env_None
  · cases h; exact snd_slices_Clone_Itv
  · cases h; exact snd_held_Has
  · cases h; exact snd_held_Without
  · cases h; exact snd_flow_deed_gains
  · cases h; exact snd_held_With
  · cases h; exact snd_itv_Leq
  · cases h; exact snd_itv_Join
  · cases h; exact snd_itv_Do
  · cases h; exact snd_ref2_One
  · cases h
noncomputable def cx_law13_known : Ctx := { tab := tab, spec := sp_law13_known, inl := inl, lps := fun _ _ => none, fuel := 40 }
theorem in_law13_known : InlOk Try.prog cx_law13_known := ⟨inl_ok, fun _ _ _ _ _ _ _ _ h => nomatch h⟩
theorem cal_law13_known (g : Nat) : SoundA Try.prog g (evF cx_law13_known keeps 8 g) := evF_sound (tabOk_of tab_ok) (cmpsOk_of tab_ok cmps_ok) mixed in_law13_known hsp_law13_known keeps 8 g
noncomputable def g_law13_known  : Option Bool :=
  Option.some !Bool.false
theorem raw_law13_known  : evGX cx_law13_known keeps 8 37 ash_law13_known (.dat .bool) (() : Unit) = g_law13_known  := by kernel_rfl
noncomputable def G_law13_known (x : Unit) : Option Bool := g_law13_known 
noncomputable def con_law13_known : List AV → Prog AV := conP true ash_law13_known (.dat .bool) G_law13_known
theorem snd_law13_known : SoundA Try.prog 37 con_law13_known := conP_sound (cal_law13_known 37) true (by rfl) (by rfl) (fun x r e => (evGX_eq _ _ _ _ _ _ _).trans ((raw_law13_known ).trans e)) (.inl rfl)
end Go.Proofs.Ytbdcblpjemmipaa.Ex

/- meddler/meddlerlaw13.FlowOff: what it makes of data. -/
namespace Go.Proofs.Ytbdcblpjemmipaa.Ex
open Go.Proofs Go.Proofs.Ytbdcblpjemmipaa
set_option maxRecDepth 100000
set_option maxHeartbeats 2000000
set_option linter.unusedVariables false
set_option linter.unusedSimpArgs false
def ash_law13_FlowOff : List Sh := [.dat tU, .dat (.int .i64), .dat (.int .i64), .dat (.sl tEn)]
noncomputable def sp_law13_FlowOff : Nat → Option (List AV → Prog AV)
  | 31 => some (con_law13_asked)
  | 33 => some (con_flow_Do)
  | 37 => some (con_law13_known)
  | _ => none
theorem hsp_law13_FlowOff : ∀ g p, sp_law13_FlowOff g = some p → SoundA Try.prog g p := by
  intro g p h
  unfold sp_law13_FlowOff at h
  split at h
  · cases h; exact snd_law13_asked
  · cases h; exact snd_flow_Do
  · cases h; exact snd_law13_known
  · cases h
noncomputable def cx_law13_FlowOff : Ctx := { tab := tab, spec := sp_law13_FlowOff, inl := inl, lps := fun _ _ => none, fuel := 40 }
theorem in_law13_FlowOff : InlOk Try.prog cx_law13_FlowOff := ⟨inl_ok, fun _ _ _ _ _ _ _ _ h => nomatch h⟩
theorem cal_law13_FlowOff (g : Nat) : SoundA Try.prog g (evF cx_law13_FlowOff keeps 8 g) := evF_sound (tabOk_of tab_ok) (cmpsOk_of tab_ok cmps_ok) mixed in_law13_FlowOff hsp_law13_FlowOff keeps 8 g
noncomputable def g_law13_FlowOff (a0 : U) (a1 : Int) (a2 : Int) (a3 : (List En)) : Option Bool :=
  Go.Proofs.Ytbdcblpjemmipaa.Ex.optC (Go.Proofs.Ytbdcblpjemmipaa.Ex.G_law13_asked (a0, a1, (Bool.false, [], [], [], 0, 0), a3, ())) Option.none fun d5 ↦
 bif !d5 then Option.some Bool.true
 else
 bif Decidable.decide (a2 < 0) then Option.some Bool.true
 else
 bif Decidable.decide (0 ≤ a1) then
 Go.Proofs.Ytbdcblpjemmipaa.Ex.optC a0.snd.snd.snd[a1.toNat]? Option.none fun d6 ↦
 bif Decidable.decide (a2 ≥ (↑(List.length d6.snd) : Int)) then Option.some Bool.true
 else
 Go.Proofs.Ytbdcblpjemmipaa.Ex.optC (Go.Proofs.Ytbdcblpjemmipaa.Ex.G_flow_Do (a0, a1, a2, (Bool.false, [], [], [], 0, 0), a3, ())) Option.none fun d7 ↦
 bif !d7.fst.fst then
 bif !d7.snd.fst.fst then
 bif
 Go.IntKind.i64.wrap (Go.IntKind.i64.wrap ((↑(List.length d7.snd.snd.fst) : Int) + (↑(List.length d7.snd.snd.snd.fst) : Int)) + (↑(List.length d7.snd.snd.snd.snd) : Int)) ==
 0 then
 Option.some !Bool.false
 else Option.some Bool.false
 else Option.some Bool.false
 else Option.some Bool.false
 else Option.none
theorem raw_law13_FlowOff (a0 : U) (a1 : Int) (a2 : Int) (a3 : (List En)) : evGX cx_law13_FlowOff keeps 8 10 ash_law13_FlowOff (.dat .bool) ((a0, a1, a2, a3, ()) : (U × (Int × (Int × ((List En) × Unit))))) = g_law13_FlowOff a0 a1 a2 a3 := by kernel_rfl
noncomputable def G_law13_FlowOff (x : (U × (Int × (Int × ((List En) × Unit))))) : Option Bool := g_law13_FlowOff x.1 x.2.1 x.2.2.1 x.2.2.2.1
noncomputable def con_law13_FlowOff : List AV → Prog AV := conP true ash_law13_FlowOff (.dat .bool) G_law13_FlowOff
theorem snd_law13_FlowOff : SoundA Try.prog 10 con_law13_FlowOff := conP_sound (cal_law13_FlowOff 10) true (by rfl) (by rfl) (fun x r e => (evGX_eq _ _ _ _ _ _ _).trans ((raw_law13_FlowOff x.1 x.2.1 x.2.2.1 x.2.2.2.1).trans e)) (.inl rfl)
end Go.Proofs.Ytbdcblpjemmipaa.Ex

/- A law by what its call makes of data; sizes. -/
namespace Go.Proofs.Ytbdcblpjemmipaa.Ex
set_option linter.unusedSectionVars false
section
variable [RT]

/-- A law by what its call makes of data. -/
theorem law_con {sh : List Sh} {G : ShDs sh → Option Bool} {args : List AV} {x : ShDs sh} (h1 : rds sh args = some x) (h2 : AV.idsL args = []) (h3 : G x = some true) :
    ∃ fb, ex ((conP true sh (.dat .bool) G args).bind (finP true)) false ⟨[], 0⟩ ⟨[], []⟩ = some (.bool true, ⟨[], 0⟩, fb) := by
  refine ⟨⟨[], []⟩, ?_⟩
  unfold ex conP
  rw [frzL_free true args _ h2, h1]
  simp only [Prog.bind, run, Option.bind_some]
  exact (congrArg (fun o => Option.bind o _) h3).trans (finP_free _ rfl _ _ _)
end
end Go.Proofs.Ytbdcblpjemmipaa.Ex

/- Of what is not reached nothing comes: plain. -/
namespace Go.Proofs.Ytbdcblpjemmipaa.Ex
set_option maxRecDepth 100000
set_option linter.unusedVariables false
set_option linter.unusedSimpArgs false
theorem do_off (a0 : U) (a1 a2 : Int) (V G A : List I) (must may : Int) (a4 : List En) : g_flow_Do a0 a1 a2 (Bool.false, V, G, A, must, may) a4 =
  bif Decidable.decide (0 ≤ a1) then
   Go.Proofs.Ytbdcblpjemmipaa.Ex.optC a0.snd.snd.snd[a1.toNat]? (Option.none) fun d6 ↦
   bif Decidable.decide (0 ≤ a2) then
   Go.Proofs.Ytbdcblpjemmipaa.Ex.optC d6.snd[a2.toNat]? (Option.none) fun d7 ↦
   Option.some ((Bool.false, [], [], [], 0, 0), (Bool.false, [], [], [], 0, 0), [], [], [])
 else Option.none
 else Option.none := by kernel_rfl

theorem reach_lt : reachBytes < 9223372036854775807 := by decide
theorem size_l {e : Ty} {l : List (D e)} (h : DOkS reachBytes (.sl e) l) : List.length (α := D e) l < 9223372036854775807 := Nat.lt_of_le_of_lt h.1 reach_lt
theorem sizeU_of {u : U} (h : DOkS reachBytes tU u) : sizeU u :=
  ⟨Nat.lt_of_le_of_lt h.1.1 reach_lt, Nat.lt_of_le_of_lt h.2.1.1 reach_lt, Nat.lt_of_le_of_lt h.2.2.2.1 reach_lt, fun c hc => Nat.lt_of_le_of_lt (h.2.2.2.2 c hc).2.1 reach_lt⟩
theorem flowOff (u : U) (t n : Int) (l : List En) (hs : sizeU u) (hl : l.length < 9223372036854775807) : g_law13_FlowOff u t n l = some true := by
  unfold g_law13_FlowOff G_law13_asked G_flow_Do
  obtain ⟨b, hb, hk⟩ := n_law13_asked u t (false, [], [], [], 0, 0) l hs hl
  simp only [hb, optC_some]
  cases b
  · rfl
  have ok := hk rfl
  obtain ⟨h0, h1⟩ := ok.ht
  by_cases h2 : n < 0
  · rw [decide_eq_true h2]; rfl
  obtain ⟨c, hc⟩ : ∃ c, u.2.2.2[t.toNat]? = some c := ⟨u.2.2.2[t.toNat]'(by omega), List.getElem?_eq_getElem _⟩
  rw [decide_eq_false h2, show decide (0 ≤ t) = true from decide_eq_true h0, hc]
  simp only [Bool.not_true, cond_false, cond_true, optC_some]
  by_cases h3 : n ≥ (c.2.length : Int)
  · rw [decide_eq_true h3]; rfl
  obtain ⟨a, ha⟩ : ∃ a, c.2[n.toNat]? = some a := ⟨c.2[n.toNat]'(by omega), List.getElem?_eq_getElem _⟩
  rw [decide_eq_false h3, do_off, show decide (0 ≤ t) = true from decide_eq_true h0, hc]
  simp only [cond_false, cond_true, optC_some]
  rw [show decide (0 ≤ n) = true from decide_eq_true (by omega), ha]
  rfl
end Go.Proofs.Ytbdcblpjemmipaa.Ex

