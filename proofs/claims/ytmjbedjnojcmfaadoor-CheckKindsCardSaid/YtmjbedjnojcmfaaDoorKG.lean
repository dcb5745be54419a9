/- A part of the proofs of which programs may be: KG. -/
import Derived.Test.YtmjbedjnojcmfaaDoorKF
namespace Go.Proofs.YtmjbedjnojcmfaaDoor.Ex
open Go.Proofs Go.Proofs.YtmjbedjnojcmfaaDoor
set_option maxRecDepth 100000
set_option maxHeartbeats 2000000
set_option linter.unusedVariables false
set_option linter.unusedSimpArgs false
def ash_ref7_cond : List Sh := [.dat tCd]
def kp_ref7_cond_73_1 : Nat → List Nat := fun c => bif c.beq 0 then [1, 3, 4, 5] else [1, 2, 4]
def kp_ref7_cond_73_3 : Nat → List Nat := fun c => bif c.beq 0 then [1, 4, 6] else [2]
class Rec_ref7_cond where
  K : (Cd × Unit) → Option Bool
  s : SoundA Tryd.prog 73 (conP true ash_ref7_cond (.dat .bool) K)
section
variable [Rec_ref7_cond]
noncomputable def sp_ref7_cond : List Con := [⟨72, con_ref7_expr, snd_ref7_expr⟩, ⟨73, (conP true ash_ref7_cond (.dat .bool) Rec_ref7_cond.K), Rec_ref7_cond.s⟩]
def s_ref7_cond_73_1_0 : StS := ⟨[(1, .ptr 0 0), (3, .int .i64), (4, .int .i64), (5, .int .i64)], [(0, .box [.int .i64, .int .i64, .sl (.mu 0), .sl (.mu 1)])], 1⟩
def x_ref7_cond_73_1_0_0 : StS := ⟨[(1, .ptr 0 0), (2, .undef), (4, .int .i64)], [(0, .box [.int .i64, .int .i64, .sl (.mu 0), .sl (.mu 1)])], 1⟩
def x_ref7_cond_73_1_0_1 : StS := ⟨[(1, .ptr 0 0), (2, .bool), (4, .int .i64)], [(0, .box [.int .i64, .int .i64, .sl (.mu 0), .sl (.mu 1)])], 1⟩
abbrev X_ref7_cond_73_1_0 := (Int × Int × Int × Int × Int × (List (RT.C 0)) × (List (RT.C 1)))
def fl_ref7_cond_73_1_0 (d : StD s_ref7_cond_73_1_0) : X_ref7_cond_73_1_0 := (d.1.2.1, d.1.2.2.1, d.1.2.2.2.1, d.2.1.1, d.2.1.2.1, d.2.1.2.2.1, d.2.1.2.2.2.1)
def un_ref7_cond_73_1_0 (x : X_ref7_cond_73_1_0) : StD s_ref7_cond_73_1_0 := (((), x.1, x.2.1, x.2.2.1, ()), ((x.2.2.2.1, x.2.2.2.2.1, x.2.2.2.2.2.1, x.2.2.2.2.2.2, ()), ()))
abbrev X_ref7_cond_73_1_0_0 := (Int × Int × Int × (List (RT.C 0)) × (List (RT.C 1)))
def fl_ref7_cond_73_1_0_0 (d : StD x_ref7_cond_73_1_0_0) : X_ref7_cond_73_1_0_0 := (d.1.2.2.1, d.2.1.1, d.2.1.2.1, d.2.1.2.2.1, d.2.1.2.2.2.1)
def un_ref7_cond_73_1_0_0 (x : X_ref7_cond_73_1_0_0) : StD x_ref7_cond_73_1_0_0 := (((), (), x.1, ()), ((x.2.1, x.2.2.1, x.2.2.2.1, x.2.2.2.2, ()), ()))
abbrev X_ref7_cond_73_1_0_1 := (Bool × Int × Int × Int × (List (RT.C 0)) × (List (RT.C 1)))
def fl_ref7_cond_73_1_0_1 (d : StD x_ref7_cond_73_1_0_1) : X_ref7_cond_73_1_0_1 := (d.1.2.1, d.1.2.2.1, d.2.1.1, d.2.1.2.1, d.2.1.2.2.1, d.2.1.2.2.2.1)
def un_ref7_cond_73_1_0_1 (x : X_ref7_cond_73_1_0_1) : StD x_ref7_cond_73_1_0_1 := (((), x.1, x.2.1, ()), ((x.2.2.1, x.2.2.2.1, x.2.2.2.2.1, x.2.2.2.2.2, ()), ()))
noncomputable def st_ref7_cond_73_1_0 (s3 : Int) (s4 : Int) (s5 : Int) (b0 : Int) (b0_1 : Int) (b0_2 : (List (RT.C 0))) (b0_3 : (List (RT.C 1))) : Option ((Int × Int × Int × Int × Int × (List (RT.C 0)) × (List (RT.C 1))) ⊕ ((Int × Int × Int × (List (RT.C 0)) × (List (RT.C 1))) ⊕ (Bool × Int × Int × Int × (List (RT.C 0)) × (List (RT.C 1))))) :=
  bif decide (s5 < s3) then
 bif decide (0 ≤ s5) then
 optC b0_2[s5.toNat]? none fun d11 ↦
 optC (G_ref7_expr (uT0 d11, ())) none fun d12 ↦
 bif !d12 then some (Sum.inr (Sum.inr (false, s4, b0, b0_1, b0_2, b0_3))) else some (Sum.inl (s3, s4, Go.IntKind.i64.wrap (s5 + 1), b0, b0_1, b0_2, b0_3))
 else none
 else some (Sum.inr (Sum.inl (s4, b0, b0_1, b0_2, b0_3)))
noncomputable def sx_ref7_cond_73_1_0 (x : X_ref7_cond_73_1_0) : Option (X_ref7_cond_73_1_0 ⊕ (X_ref7_cond_73_1_0_0 ⊕ X_ref7_cond_73_1_0_1)) := st_ref7_cond_73_1_0 x.1 x.2.1 x.2.2.1 x.2.2.2.1 x.2.2.2.2.1 x.2.2.2.2.2.1 x.2.2.2.2.2.2
theorem rn_ref7_cond_73_1_0 (x : X_ref7_cond_73_1_0) : rdX (cxU sp_ref7_cond [] 40 (1048576 ^ 9)) keeps 8 ⟨73, 66, keeps 73, 0⟩ 1 (bodyX 73 1) 0 kp_ref7_cond_73_1 (sT s_ref7_cond_73_1_0 (un_ref7_cond_73_1_0 x)) (sH s_ref7_cond_73_1_0 (un_ref7_cond_73_1_0 x)) (rdO (fun T h => (rdS s_ref7_cond_73_1_0 T h).map fl_ref7_cond_73_1_0) (getOr (getE 3 x_ref7_cond_73_1_0_0 fl_ref7_cond_73_1_0_0) (getE 1 x_ref7_cond_73_1_0_1 fl_ref7_cond_73_1_0_1))) = sx_ref7_cond_73_1_0 x := by kernel_rfl
noncomputable def L_ref7_cond_73_1_0 (x : X_ref7_cond_73_1_0) : Option (X_ref7_cond_73_1_0_0 ⊕ X_ref7_cond_73_1_0_1) := iterO (fun x => st_ref7_cond_73_1_0 x.1 x.2.1 x.2.2.1 x.2.2.2.1 x.2.2.2.2.1 x.2.2.2.2.2.1 x.2.2.2.2.2.2) FUEL x
noncomputable def q_ref7_cond_73_1 : Nat → Tm → Prog (Nat × Tm) := (varP 0 (fun T h => (rdS s_ref7_cond_73_1_0 T h).map fl_ref7_cond_73_1_0) L_ref7_cond_73_1_0 (fun y => .alt y (altE 3 x_ref7_cond_73_1_0_0 un_ref7_cond_73_1_0_0) (altE 1 x_ref7_cond_73_1_0_1 un_ref7_cond_73_1_0_1)) (fun _ _ => .fail))
noncomputable def lc_ref7_cond_73_1 : Lpc := ⟨73, 1, 66, (fun base T => .norm base (kp_ref7_cond_73_1 0) T (q_ref7_cond_73_1 base)), by kernel_rfl, by kernel_rfl, (loopU sp_ref7_cond [] 40 (1048576 ^ 9) 8 (keep := kp_ref7_cond_73_1) (q := q_ref7_cond_73_1) (by kernel_rfl) (varX_ok (s := s_ref7_cond_73_1_0) (un := un_ref7_cond_73_1_0) (by rfl) (fun _ => rfl) (getOr_ok (getE_ok (s := x_ref7_cond_73_1_0_0) (un := un_ref7_cond_73_1_0_0) (by rfl) (fun _ => rfl)) (getE_ok (s := x_ref7_cond_73_1_0_1) (un := un_ref7_cond_73_1_0_1) (by rfl) (fun _ => rfl))) (step := sx_ref7_cond_73_1_0) rn_ref7_cond_73_1_0 (fun _ _ e => ⟨_, e⟩) (altOr_ok (altE_ok 3 x_ref7_cond_73_1_0_0 un_ref7_cond_73_1_0_0) (altE_ok 1 x_ref7_cond_73_1_0_1 un_ref7_cond_73_1_0_1)) (VarOk.fail _ _)))⟩
noncomputable abbrev cx_ref7_cond_73_3 := cxU sp_ref7_cond [lc_ref7_cond_73_1] 40 (1048576 ^ 9)
def s_ref7_cond_73_3_0 : StS := ⟨[(1, .ptr 0 0), (4, .int .i64), (6, .int .i64)], [(0, .box [.int .i64, .int .i64, .sl (.mu 0), .sl (.mu 1)])], 1⟩
def x_ref7_cond_73_3_0_0 : StS := ⟨[(2, .undef)], [], 0⟩
def x_ref7_cond_73_3_0_1 : StS := ⟨[(2, .bool)], [], 0⟩
abbrev X_ref7_cond_73_3_0 := (Int × Int × Int × Int × (List (RT.C 0)) × (List (RT.C 1)))
def fl_ref7_cond_73_3_0 (d : StD s_ref7_cond_73_3_0) : X_ref7_cond_73_3_0 := (d.1.2.1, d.1.2.2.1, d.2.1.1, d.2.1.2.1, d.2.1.2.2.1, d.2.1.2.2.2.1)
def un_ref7_cond_73_3_0 (x : X_ref7_cond_73_3_0) : StD s_ref7_cond_73_3_0 := (((), x.1, x.2.1, ()), ((x.2.2.1, x.2.2.2.1, x.2.2.2.2.1, x.2.2.2.2.2, ()), ()))
abbrev X_ref7_cond_73_3_0_0 := Unit
def fl_ref7_cond_73_3_0_0 (d : StD x_ref7_cond_73_3_0_0) : X_ref7_cond_73_3_0_0 := ()
def un_ref7_cond_73_3_0_0 (x : X_ref7_cond_73_3_0_0) : StD x_ref7_cond_73_3_0_0 := (((), ()), ())
abbrev X_ref7_cond_73_3_0_1 := Bool
def fl_ref7_cond_73_3_0_1 (d : StD x_ref7_cond_73_3_0_1) : X_ref7_cond_73_3_0_1 := (d.1.1)
def un_ref7_cond_73_3_0_1 (x : X_ref7_cond_73_3_0_1) : StD x_ref7_cond_73_3_0_1 := ((x, ()), ())
noncomputable def st_ref7_cond_73_3_0 (s4 : Int) (s6 : Int) (b0 : Int) (b0_1 : Int) (b0_2 : (List (RT.C 0))) (b0_3 : (List (RT.C 1))) : Option ((Int × Int × Int × Int × (List (RT.C 0)) × (List (RT.C 1))) ⊕ (Unit ⊕ Bool)) :=
  bif decide (s6 < s4) then
 bif decide (0 ≤ s6) then
 optC b0_3[s6.toNat]? none fun d10 ↦
 optC (Rec_ref7_cond.K (uT1 d10, ())) none fun d11 ↦
 bif !d11 then some (Sum.inr (Sum.inr false)) else some (Sum.inl (s4, Go.IntKind.i64.wrap (s6 + 1), b0, b0_1, b0_2, b0_3))
 else none
 else some (Sum.inr (Sum.inl PUnit.unit))
noncomputable def sx_ref7_cond_73_3_0 (x : X_ref7_cond_73_3_0) : Option (X_ref7_cond_73_3_0 ⊕ (X_ref7_cond_73_3_0_0 ⊕ X_ref7_cond_73_3_0_1)) := st_ref7_cond_73_3_0 x.1 x.2.1 x.2.2.1 x.2.2.2.1 x.2.2.2.2.1 x.2.2.2.2.2
theorem rn_ref7_cond_73_3_0 (x : X_ref7_cond_73_3_0) : rdX cx_ref7_cond_73_3 keeps 8 ⟨73, 66, keeps 73, 0⟩ 3 (bodyX 73 3) 0 kp_ref7_cond_73_3 (sT s_ref7_cond_73_3_0 (un_ref7_cond_73_3_0 x)) (sH s_ref7_cond_73_3_0 (un_ref7_cond_73_3_0 x)) (rdO (fun T h => (rdS s_ref7_cond_73_3_0 T h).map fl_ref7_cond_73_3_0) (getOr (getE 5 x_ref7_cond_73_3_0_0 fl_ref7_cond_73_3_0_0) (getE 1 x_ref7_cond_73_3_0_1 fl_ref7_cond_73_3_0_1))) = sx_ref7_cond_73_3_0 x := by kernel_rfl
noncomputable def L_ref7_cond_73_3_0 (x : X_ref7_cond_73_3_0) : Option (X_ref7_cond_73_3_0_0 ⊕ X_ref7_cond_73_3_0_1) := iterO (fun x => st_ref7_cond_73_3_0 x.1 x.2.1 x.2.2.1 x.2.2.2.1 x.2.2.2.2.1 x.2.2.2.2.2) FUEL x
noncomputable def q_ref7_cond_73_3 : Nat → Tm → Prog (Nat × Tm) := (varP 0 (fun T h => (rdS s_ref7_cond_73_3_0 T h).map fl_ref7_cond_73_3_0) L_ref7_cond_73_3_0 (fun y => .alt y (altE 5 x_ref7_cond_73_3_0_0 un_ref7_cond_73_3_0_0) (altE 1 x_ref7_cond_73_3_0_1 un_ref7_cond_73_3_0_1)) (fun _ _ => .fail))
noncomputable def lc_ref7_cond_73_3 : Lpc := ⟨73, 3, 66, (fun base T => .norm base (kp_ref7_cond_73_3 0) T (q_ref7_cond_73_3 base)), by kernel_rfl, by kernel_rfl, (loopU sp_ref7_cond [lc_ref7_cond_73_1] 40 (1048576 ^ 9) 8 (keep := kp_ref7_cond_73_3) (q := q_ref7_cond_73_3) (by kernel_rfl) (varX_ok (s := s_ref7_cond_73_3_0) (un := un_ref7_cond_73_3_0) (by rfl) (fun _ => rfl) (getOr_ok (getE_ok (s := x_ref7_cond_73_3_0_0) (un := un_ref7_cond_73_3_0_0) (by rfl) (fun _ => rfl)) (getE_ok (s := x_ref7_cond_73_3_0_1) (un := un_ref7_cond_73_3_0_1) (by rfl) (fun _ => rfl))) (step := sx_ref7_cond_73_3_0) rn_ref7_cond_73_3_0 (fun _ _ e => ⟨_, e⟩) (altOr_ok (altE_ok 5 x_ref7_cond_73_3_0_0 un_ref7_cond_73_3_0_0) (altE_ok 1 x_ref7_cond_73_3_0_1 un_ref7_cond_73_3_0_1)) (VarOk.fail _ _)))⟩
noncomputable def g_ref7_cond (a0 : Cd) : Option Bool :=
  bif a0.1 == 1 then
 bif (↑(List.length a0.2.2.1) : Int) != 2 then some false
 else
 bif (↑(List.length a0.2.2.2) : Int) != 0 then some false
 else
 bif decide (a0.2.1 < 1) then some false
 else
 bif decide (a0.2.1 > 6) then some false
 else
 optC (L_ref7_cond_73_1_0 (2, 0, 0, a0)) none fun d5 ↦
 Sum.elim (fun e6 ↦ optC (L_ref7_cond_73_3_0 (e6.1, 0, e6.2)) none fun d7 ↦ Sum.elim (fun e8 ↦ some true) (fun e8 ↦ some e8) d7)
 (fun e6 ↦ some e6.1) d5
 else
 bif a0.1 == 2 then
 bif (↑(List.length a0.2.2.1) : Int) != 0 then some false
 else
 bif (↑(List.length a0.2.2.2) : Int) != 1 then some false
 else
 optC (L_ref7_cond_73_1_0 (0, 1, 0, a0)) none fun d5 ↦
 Sum.elim (fun e6 ↦ optC (L_ref7_cond_73_3_0 (e6.1, 0, e6.2)) none fun d7 ↦ Sum.elim (fun e8 ↦ some true) (fun e8 ↦ some e8) d7)
 (fun e6 ↦ some e6.1) d5
 else
 bif a0.1 == 3 then
 bif (↑(List.length a0.2.2.1) : Int) != 0 then some false
 else
 bif (↑(List.length a0.2.2.2) : Int) != 2 then some false
 else
 optC (L_ref7_cond_73_1_0 (0, 2, 0, a0)) none fun d5 ↦
 Sum.elim (fun e6 ↦ optC (L_ref7_cond_73_3_0 (e6.1, 0, e6.2)) none fun d7 ↦ Sum.elim (fun e8 ↦ some true) (fun e8 ↦ some e8) d7)
 (fun e6 ↦ some e6.1) d5
 else
 bif a0.1 == 4 then
 bif (↑(List.length a0.2.2.1) : Int) != 0 then some false
 else
 bif (↑(List.length a0.2.2.2) : Int) != 2 then some false
 else
 optC (L_ref7_cond_73_1_0 (0, 2, 0, a0)) none fun d5 ↦
 Sum.elim (fun e6 ↦ optC (L_ref7_cond_73_3_0 (e6.1, 0, e6.2)) none fun d7 ↦ Sum.elim (fun e8 ↦ some true) (fun e8 ↦ some e8) d7)
 (fun e6 ↦ some e6.1) d5
 else some false
theorem raw_ref7_cond (a0 : Cd) : evGX1 (cxU sp_ref7_cond [lc_ref7_cond_73_1, lc_ref7_cond_73_3] 40 (1048576 ^ 9)) keeps 8 73 ash_ref7_cond (.dat .bool) ((a0, ()) : (Cd × Unit)) = g_ref7_cond a0 := by kernel_rfl
noncomputable def GI_ref7_cond (x : (Cd × Unit)) : Option Bool := g_ref7_cond x.1
noncomputable def conI_ref7_cond : List AV → Prog AV := conP true ash_ref7_cond (.dat .bool) GI_ref7_cond
theorem sndI_ref7_cond : SoundA Tryd.prog 73 conI_ref7_cond := conP_sound (evF1_sound (tabOk_of tab_ok) (cmpsOk_of tab_ok cmps_ok) mixed (inU sp_ref7_cond [lc_ref7_cond_73_1, lc_ref7_cond_73_3] 40 (1048576 ^ 9)) (hspL sp_ref7_cond) keeps 8 73) true (by rfl) (by rfl) (fun x r e => (evGX1_eq _ _ _ _ _ _ _).trans ((raw_ref7_cond x.1).trans e)) (.inl rfl)
end
noncomputable def it_ref7_cond : Nat → {K : (Cd × Unit) → Option Bool // SoundA Tryd.prog 73 (conP true ash_ref7_cond (.dat .bool) K)}
  | 0 => ⟨fun _ => none, conP_none⟩
  | k + 1 => letI : Rec_ref7_cond := ⟨(it_ref7_cond k).1, (it_ref7_cond k).2⟩; ⟨GI_ref7_cond, sndI_ref7_cond⟩
noncomputable def G_ref7_cond (x : (Cd × Unit)) : Option Bool := (it_ref7_cond (SizeOf.sizeOf x + 1)).1 x
noncomputable def con_ref7_cond : List AV → Prog AV := conP true ash_ref7_cond (.dat .bool) G_ref7_cond
theorem snd_ref7_cond : SoundA Tryd.prog 73 con_ref7_cond := conP_pick (sh := ash_ref7_cond) (rs := .dat .bool) (n := fun x : (Cd × Unit) => SizeOf.sizeOf x + 1) (F := fun k => (it_ref7_cond k).1) (fun k => (it_ref7_cond k).2)
end Go.Proofs.YtmjbedjnojcmfaaDoor.Ex

namespace Go.Proofs.YtmjbedjnojcmfaaDoor.Ex
set_option maxRecDepth 100000
set_option maxHeartbeats 2000000
set_option linter.unusedVariables false
set_option linter.unusedSimpArgs false
set_option linter.unusedSectionVars false
variable [Rec_ref7_cond]
noncomputable def bd_ref7_cond_73_1_0 (s4 : Int) (b0 : Int) (b0_1 : Int) (b0_3 : (List (RT.C 1))) (b0_2 : (List (RT.C 0))) (i : Nat)  (d : (RT.C 0)) : Option (Unit ⊕ (X_ref7_cond_73_1_0_0 ⊕ X_ref7_cond_73_1_0_1)) :=
  optC (G_ref7_expr (uT0 d, ())) (none) fun d12 ↦
   bif !d12 then
   some (Sum.inr (Sum.inr (false, s4, b0, b0_1, b0_2, b0_3)))
 else some (Sum.inl ())
noncomputable def fn_ref7_cond_73_1_0 (s4 : Int) (b0 : Int) (b0_1 : Int) (b0_3 : (List (RT.C 1))) (b0_2 : (List (RT.C 0)))  : Option (X_ref7_cond_73_1_0_0 ⊕ X_ref7_cond_73_1_0_1) :=
  some (Sum.inl (s4, b0, b0_1, b0_2, b0_3))
noncomputable abbrev rx_ref7_cond_73_1_0 (s4 : Int) (b0 : Int) (b0_1 : Int) (b0_3 : (List (RT.C 1))) (b0_2 : (List (RT.C 0))) (i : Nat) (s : Unit) : X_ref7_cond_73_1_0 := ((b0_2.length : Int), s4, (i : Int), b0, b0_1, b0_2, b0_3)
noncomputable def rv_ref7_cond_73_1_0 (s4 : Int) (b0 : Int) (b0_1 : Int) (b0_3 : (List (RT.C 1))) (b0_2 : (List (RT.C 0))) (s : Unit) : Option (X_ref7_cond_73_1_0_0 ⊕ X_ref7_cond_73_1_0_1) := rangeO (fun i s d => bd_ref7_cond_73_1_0 s4 b0 b0_1 b0_3 b0_2 i  d) (fun s => fn_ref7_cond_73_1_0 s4 b0 b0_1 b0_3 b0_2 ) 0 b0_2 s
theorem rg_ref7_cond_73_1_0 (s4 : Int) (b0 : Int) (b0_1 : Int) (b0_3 : (List (RT.C 1))) (b0_2 : (List (RT.C 0))) (s : Unit) (hl : b0_2.length < 9223372036854775807) : L_ref7_cond_73_1_0 ((b0_2.length : Int), s4, 0, b0, b0_1, b0_2, b0_3) = rv_ref7_cond_73_1_0 s4 b0 b0_1 b0_3 b0_2 s := by
  unfold L_ref7_cond_73_1_0 rv_ref7_cond_73_1_0
  refine iterO_range0 b0_2 (rx_ref7_cond_73_1_0 s4 b0 b0_1 b0_3 b0_2) _ _ ?_ ?_ s (by unfold FUEL; omega)
  · intro i s d hi hd
    have e1 : decide ((i : Int) < (b0_2.length : Int)) = true := decide_eq_true (by omega)
    have e2 : decide (0 ≤ (i : Int)) = true := decide_eq_true (by omega)
    have e3 : Int.toNat (i : Int) = i := Int.toNat_natCast i
    have e4 := wrap_next hi (Nat.le_of_lt hl)
    show st_ref7_cond_73_1_0 ((b0_2.length : Int)) (s4) ((i : Int)) (b0) (b0_1) (b0_2) (b0_3) = upd _ (bd_ref7_cond_73_1_0 s4 b0 b0_1 b0_3 b0_2 i  d)
    unfold st_ref7_cond_73_1_0 bd_ref7_cond_73_1_0
    simp only [e1, e2, e3, e4, hd, cond_true, cond_false, optC_some, upd_cond, upd_optC, upd_elim, upd_inl, upd_inr, upd_none]
  · intro s
    have e1 : decide ((b0_2.length : Int) < (b0_2.length : Int)) = false := decide_eq_false (by omega)
    show st_ref7_cond_73_1_0 ((b0_2.length : Int)) (s4) ((b0_2.length : Int)) (b0) (b0_1) (b0_2) (b0_3) = _
    unfold st_ref7_cond_73_1_0 fn_ref7_cond_73_1_0
    rw [e1]
    rfl
noncomputable def bd_ref7_cond_73_3_0 (b0 : Int) (b0_1 : Int) (b0_2 : (List (RT.C 0))) (b0_3 : (List (RT.C 1))) (i : Nat)  (d : (RT.C 1)) : Option (Unit ⊕ (X_ref7_cond_73_3_0_0 ⊕ X_ref7_cond_73_3_0_1)) :=
  optC (Rec_ref7_cond.K (uT1 d, ())) (none) fun d11 ↦
   bif !d11 then
   some (Sum.inr (Sum.inr false))
 else some (Sum.inl ())
noncomputable def fn_ref7_cond_73_3_0 (b0 : Int) (b0_1 : Int) (b0_2 : (List (RT.C 0))) (b0_3 : (List (RT.C 1)))  : Option (X_ref7_cond_73_3_0_0 ⊕ X_ref7_cond_73_3_0_1) :=
  some (Sum.inl PUnit.unit)
noncomputable abbrev rx_ref7_cond_73_3_0 (b0 : Int) (b0_1 : Int) (b0_2 : (List (RT.C 0))) (b0_3 : (List (RT.C 1))) (i : Nat) (s : Unit) : X_ref7_cond_73_3_0 := ((b0_3.length : Int), (i : Int), b0, b0_1, b0_2, b0_3)
noncomputable def rv_ref7_cond_73_3_0 (b0 : Int) (b0_1 : Int) (b0_2 : (List (RT.C 0))) (b0_3 : (List (RT.C 1))) (s : Unit) : Option (X_ref7_cond_73_3_0_0 ⊕ X_ref7_cond_73_3_0_1) := rangeO (fun i s d => bd_ref7_cond_73_3_0 b0 b0_1 b0_2 b0_3 i  d) (fun s => fn_ref7_cond_73_3_0 b0 b0_1 b0_2 b0_3 ) 0 b0_3 s
theorem rg_ref7_cond_73_3_0 (b0 : Int) (b0_1 : Int) (b0_2 : (List (RT.C 0))) (b0_3 : (List (RT.C 1))) (s : Unit) (hl : b0_3.length < 9223372036854775807) : L_ref7_cond_73_3_0 ((b0_3.length : Int), 0, b0, b0_1, b0_2, b0_3) = rv_ref7_cond_73_3_0 b0 b0_1 b0_2 b0_3 s := by
  unfold L_ref7_cond_73_3_0 rv_ref7_cond_73_3_0
  refine iterO_range0 b0_3 (rx_ref7_cond_73_3_0 b0 b0_1 b0_2 b0_3) _ _ ?_ ?_ s (by unfold FUEL; omega)
  · intro i s d hi hd
    have e1 : decide ((i : Int) < (b0_3.length : Int)) = true := decide_eq_true (by omega)
    have e2 : decide (0 ≤ (i : Int)) = true := decide_eq_true (by omega)
    have e3 : Int.toNat (i : Int) = i := Int.toNat_natCast i
    have e4 := wrap_next hi (Nat.le_of_lt hl)
    show st_ref7_cond_73_3_0 ((b0_3.length : Int)) ((i : Int)) (b0) (b0_1) (b0_2) (b0_3) = upd _ (bd_ref7_cond_73_3_0 b0 b0_1 b0_2 b0_3 i  d)
    unfold st_ref7_cond_73_3_0 bd_ref7_cond_73_3_0
    simp only [e1, e2, e3, e4, hd, cond_true, cond_false, optC_some, upd_cond, upd_optC, upd_elim, upd_inl, upd_inr, upd_none]
  · intro s
    have e1 : decide ((b0_3.length : Int) < (b0_3.length : Int)) = false := decide_eq_false (by omega)
    show st_ref7_cond_73_3_0 ((b0_3.length : Int)) ((b0_3.length : Int)) (b0) (b0_1) (b0_2) (b0_3) = _
    unfold st_ref7_cond_73_3_0 fn_ref7_cond_73_3_0
    rw [e1]
    rfl
end Go.Proofs.YtmjbedjnojcmfaaDoor.Ex

namespace Go.Proofs.YtmjbedjnojcmfaaDoor.Ex
set_option maxRecDepth 100000
set_option linter.unusedVariables false
set_option linter.unusedSimpArgs false
theorem neB (k : Int) (m n : Nat) (h : k = (m : Int)) : (k != (n : Int)) = !(n == m) := by
  subst h
  rw [Bool.eq_iff_iff, bne_iff_ne, Bool.not_eq_true', beq_eq_false_iff_ne]; omega
theorem neB' (k : Int) (m n : Nat) (h : k = (m : Int)) : ((n : Int) != k) = !(n == m) := by
  subst h
  rw [Bool.eq_iff_iff, bne_iff_ne, Bool.not_eq_true', beq_eq_false_iff_ne]; omega
theorem ltB (a b : Int) : (!decide (a < b)) = decide (b ≤ a) := by rw [Bool.eq_iff_iff]; simp
theorem gtB (a b : Int) : (!decide (a > b)) = decide (a ≤ b) := by rw [Bool.eq_iff_iff]; simp
section
variable [Rec_ref7_expr]
theorem ref_expr (k n op : Int) (nm : ByteArray) (kids : List T0) (hn : nm.data.toList.length ≤ 9223372036854775807) (hl : kids.length < 9223372036854775807) (h : ∀ d ∈ kids, Rec_ref7_expr.K (uT0 d, ()) = some (exB d)) : g_ref7_expr (k, n, op, nm, kids) = some (exB (.mk (k, n, op, nm, kids))) := by
  obtain ⟨j, q⟩ := rangeO_bad (f := fun i _ d => bd_ref7_expr_72_0_0 k n op nm kids i d) (fin := fun _ => fn_ref7_expr_72_0_0 k n op nm kids) (p := exB) (o := fun _ => .inr false) kids 0 fun j d hd => by
    unfold bd_ref7_expr_72_0_0
    simp only [h d (List.mem_of_getElem? hd), optC_some]
    cases exB d <;> rfl
  have e : L_ref7_expr_72_0_0 (0, k, n, op, nm, kids) = _ := (rg_ref7_expr_72_0_0 k n op nm kids () hl).trans q
  have t : (optC (L_ref7_expr_72_0_0 (0, k, n, op, nm, kids)) none fun d6 => Sum.elim (fun e7 => some true) (fun e7 => some e7) d6) = some (kids.all exB) := by
    rw [e]
    cases kids.all exB <;> rfl
  rw [exB_eq]
  unfold g_ref7_expr
  simp only [G_ref7_kids, g_ref7_kids, G_ref7_name, n_ref7_name nm hn, optC_some, t]
  have z0 := neB 0 0 kids.length rfl
  have z1 := neB 1 1 kids.length rfl
  have z2 := neB 2 2 kids.length rfl
  have zm : ((-1 : Int) != (kids.length : Int)) = true := by rw [bne_iff_ne]; omega
  by_cases h1 : k = 1
  · subst h1
    simp only [Int.reduceBEq, Int.reduceNeg, cond_true, cond_false, optC_some, z0, z1, z2, zm, cA, cM, ltB, gtB, Bool.not_not]
    try simp only [Bool.and_comm, Bool.and_left_comm, Bool.and_assoc]
  by_cases h2 : k = 2
  · subst h2
    simp only [Int.reduceBEq, Int.reduceNeg, cond_true, cond_false, optC_some, z0, z1, z2, zm, cA, cM, ltB, gtB, Bool.not_not]
    try simp only [Bool.and_comm, Bool.and_left_comm, Bool.and_assoc]
  by_cases h3 : k = 3
  · subst h3
    simp only [Int.reduceBEq, Int.reduceNeg, cond_true, cond_false, optC_some, z0, z1, z2, zm, cA, cM, ltB, gtB, Bool.not_not]
    try simp only [Bool.and_comm, Bool.and_left_comm, Bool.and_assoc]
  by_cases h4 : k = 4
  · subst h4
    simp only [Int.reduceBEq, Int.reduceNeg, cond_true, cond_false, optC_some, z0, z1, z2, zm, cA, cM, ltB, gtB, Bool.not_not]
    try simp only [Bool.and_comm, Bool.and_left_comm, Bool.and_assoc]
  by_cases h5 : k = 5
  · subst h5
    simp only [Int.reduceBEq, Int.reduceNeg, cond_true, cond_false, optC_some, z0, z1, z2, zm, cA, cM, ltB, gtB, Bool.not_not]
    try simp only [Bool.and_comm, Bool.and_left_comm, Bool.and_assoc]
  by_cases h6 : k = 6
  · subst h6
    simp only [Int.reduceBEq, Int.reduceNeg, cond_true, cond_false, optC_some, z0, z1, z2, zm, cA, cM, ltB, gtB, Bool.not_not]
    try simp only [Bool.and_comm, Bool.and_left_comm, Bool.and_assoc]
  simp only [beq_eq_false_iff_ne.2 h1, beq_eq_false_iff_ne.2 h2, beq_eq_false_iff_ne.2 h3, beq_eq_false_iff_ne.2 h4, beq_eq_false_iff_ne.2 h5, beq_eq_false_iff_ne.2 h6, cond_false, optC_some, zm, cond_true, Bool.false_and]
end
theorem it_ref_expr (t : T0) (ht : ok0 t) : ∀ k, SizeOf.sizeOf t ≤ k → (it_ref7_expr k).1 (uT0 t, ()) = some (exB t) := by
  induction ht with
  | @mk c n op nm kids hn hl h ih =>
    intro k hk
    rw [T0.mk.sizeOf_spec] at hk
    obtain ⟨k, rfl⟩ : ∃ m, k = m + 1 := ⟨k - 1, by omega⟩
    letI : Rec_ref7_expr := ⟨(it_ref7_expr k).1, (it_ref7_expr k).2⟩
    refine ref_expr c n op nm kids hn hl fun d hd => ih d hd k ?_
    have := List.sizeOf_lt_of_mem hd
    simp only [Prod.mk.sizeOf_spec] at hk
    omega
theorem n_ref_expr (e : Xp) (ht : ok0 (.mk e)) : G_ref7_expr (e, ()) = some (exB (.mk e)) :=
  it_ref_expr (.mk e) ht _ (by rw [T0.mk.sizeOf_spec]; show 1 + SizeOf.sizeOf e ≤ (1 + SizeOf.sizeOf e + SizeOf.sizeOf ()) + 1; omega)
theorem n_ref_expr' (d : T0) (ht : ok0 d) : G_ref7_expr (uT0 d, ()) = some (exB d) := by
  cases d with
  | mk e => exact n_ref_expr e ht
def cdB : T1 → Bool
  | .mk (k, rel, l, kids) => (bif k == 1 then (decide (1 ≤ rel) && decide (rel ≤ 6)) && ((kids.length == 0) && (l.length == 2)) else bif k == 2 then (kids.length == 1) && (l.length == 0) else bif k == 3 then (kids.length == 2) && (l.length == 0) else bif k == 4 then (kids.length == 2) && (l.length == 0) else false) && (l.all exB && kids.attach.all fun x => cdB x.1)
termination_by t => SizeOf.sizeOf t
decreasing_by
  have := List.sizeOf_lt_of_mem x.2
  simp only [T1.mk.sizeOf_spec, Prod.mk.sizeOf_spec]
  omega
theorem cdB_eq (k rel : Int) (l : List T0) (kids : List T1) : cdB (.mk (k, rel, l, kids)) = ((bif k == 1 then (decide (1 ≤ rel) && decide (rel ≤ 6)) && ((kids.length == 0) && (l.length == 2)) else bif k == 2 then (kids.length == 1) && (l.length == 0) else bif k == 3 then (kids.length == 2) && (l.length == 0) else bif k == 4 then (kids.length == 2) && (l.length == 0) else false) && (l.all exB && kids.all cdB)) := by
  rw [cdB, att_all kids cdB]
inductive ok1 : T1 → Prop
  | mk {k rel : Int} {l : List T0} {kids : List T1} (h0 : l.length < 9223372036854775807) (hl : kids.length < 9223372036854775807) (hx : ∀ d ∈ l, ok0 d) (h : ∀ d ∈ kids, ok1 d) : ok1 (.mk (k, rel, l, kids))
section
variable [Rec_check_isCond]
theorem chk_cond (k rel : Int) (l : List T0) (kids : List T1) (h0 : l.length < 9223372036854775807) (hl : kids.length < 9223372036854775807) (hx : ∀ d ∈ l, ok0 d) (h : ∀ d ∈ kids, Rec_check_isCond.K (uT1 d, ()) = some (cdB d)) : g_check_isCond (k, rel, l, kids) = some (cdB (.mk (k, rel, l, kids))) := by
  obtain ⟨j, q⟩ := rangeO_bad (f := fun i _ d => bd_check_isCond_96_0_0 k rel l kids l i d) (fin := fun _ => fn_check_isCond_96_0_0 k rel l kids l) (p := exB) (o := fun i => .inr ((i : Int), k, rel, l, kids)) l 0 fun j d hd => by
    unfold bd_check_isCond_96_0_0
    simp only [n_isExpr' d (hx d (List.mem_of_getElem? hd)), optC_some]
    cases exB d <;> rfl
  have e : L_check_isCond_96_0_0 (l, (l.length : Int), 0, k, rel, l, kids) = _ := (rg_check_isCond_96_0_0 k rel l kids l () h0).trans q
  obtain ⟨j', q'⟩ := rangeO_bad (f := fun i _ d => bd_check_isCond_97_0_0 k rel l kids kids i d) (fin := fun _ => fn_check_isCond_97_0_0 k rel l kids kids) (p := cdB) (o := fun i => .inr ((i : Int), k, rel, l, kids)) kids 0 fun j d hd => by
    unfold bd_check_isCond_97_0_0
    simp only [h d (List.mem_of_getElem? hd), optC_some]
    cases cdB d <;> rfl
  have e' : L_check_isCond_97_0_0 (kids, (kids.length : Int), 0, k, rel, l, kids) = _ := (rg_check_isCond_97_0_0 k rel l kids kids () hl).trans q'
  have t' : (optC (L_check_isCond_97_0_0 (kids, (kids.length : Int), 0, k, rel, l, kids)) none fun d8 => Sum.elim (fun e9 => some !decide ((-1 : Int) ≥ 0)) (fun e9 => some !decide (e9.1 ≥ 0)) d8) = some (kids.all cdB) := by
    rw [e']
    cases kids.all cdB
    · simp only [cond_false, optC_some, Sum.elim_inr]
      rw [decide_eq_true (show (j' : Int) ≥ 0 by omega)]; rfl
    · rfl
  have t : (optC (L_check_isCond_96_0_0 (l, (l.length : Int), 0, k, rel, l, kids)) none fun d6 =>
      Sum.elim (fun e7 => optC (L_check_isCond_97_0_0 (e7.2.2.2, (e7.2.2.2.length : Int), 0, e7)) none fun d8 => Sum.elim (fun e9 => some !decide ((-1 : Int) ≥ 0)) (fun e9 => some !decide (e9.1 ≥ 0)) d8)
        (fun e7 => bif !decide (e7.1 ≥ 0) then optC (L_check_isCond_97_0_0 (e7.2.2.2.2, (e7.2.2.2.2.length : Int), 0, e7.2)) none fun d8 => Sum.elim (fun e9 => some !decide ((-1 : Int) ≥ 0)) (fun e9 => some !decide (e9.1 ≥ 0)) d8 else some false) d6) = some (l.all exB && kids.all cdB) := by
    rw [e]
    cases l.all exB
    · simp only [cond_false, optC_some, Sum.elim_inr]
      rw [decide_eq_true (show (j : Int) ≥ 0 by omega)]; rfl
    · rw [Bool.true_and]; exact t'
  unfold g_check_isCond
  simp only [G_check_isIn, n_isIn, optC_some]
  rw [t, cdB_eq, show ((kids.length : Int) == 0) = (kids.length == 0) from len_i _ 0, show ((kids.length : Int) == 1) = (kids.length == 1) from len_i _ 1, show ((kids.length : Int) == 2) = (kids.length == 2) from len_i _ 2, show ((l.length : Int) == 0) = (l.length == 0) from len_i _ 0, show ((l.length : Int) == 2) = (l.length == 2) from len_i _ 2]
  simp only [cA]
  cases k == 1
  · cases k == 2
    · cases k == 3
      · cases k == 4
        · rfl
        · simp only [cond_true, cond_false, Bool.and_assoc, Bool.true_and]
      · simp only [cond_true, cond_false, Bool.and_assoc, Bool.true_and]
    · simp only [cond_true, cond_false, Bool.and_assoc, Bool.true_and]
  · simp only [cond_true, cond_false, Bool.and_assoc, Bool.true_and]
end
theorem it_isCond (t : T1) (ht : ok1 t) : ∀ k, SizeOf.sizeOf t ≤ k → (it_check_isCond k).1 (uT1 t, ()) = some (cdB t) := by
  induction ht with
  | @mk c rel l kids h0 hl hx h ih =>
    intro k hk
    rw [T1.mk.sizeOf_spec] at hk
    obtain ⟨k, rfl⟩ : ∃ m, k = m + 1 := ⟨k - 1, by omega⟩
    letI : Rec_check_isCond := ⟨(it_check_isCond k).1, (it_check_isCond k).2⟩
    refine chk_cond c rel l kids h0 hl hx fun d hd => ih d hd k ?_
    have := List.sizeOf_lt_of_mem hd
    simp only [Prod.mk.sizeOf_spec] at hk
    omega
theorem n_isCond (e : Cd) (ht : ok1 (.mk e)) : G_check_isCond (e, ()) = some (cdB (.mk e)) :=
  it_isCond (.mk e) ht _ (by rw [T1.mk.sizeOf_spec]; show 1 + SizeOf.sizeOf e ≤ (1 + SizeOf.sizeOf e + SizeOf.sizeOf ()) + 1; omega)
section
variable [Rec_ref7_cond]
theorem ref_cond (k rel : Int) (l : List T0) (kids : List T1) (h0 : l.length < 9223372036854775807) (hl : kids.length < 9223372036854775807) (hx : ∀ d ∈ l, ok0 d) (h : ∀ d ∈ kids, Rec_ref7_cond.K (uT1 d, ()) = some (cdB d)) : g_ref7_cond (k, rel, l, kids) = some (cdB (.mk (k, rel, l, kids))) := by
  have e : ∀ s4 : Int, ∃ j : Bool, L_ref7_cond_73_1_0 ((l.length : Int), s4, 0, k, rel, l, kids) = bif l.all exB then some (.inl (s4, k, rel, l, kids)) else some (.inr (false, s4, k, rel, l, kids)) := fun s4 => by
    obtain ⟨j, q⟩ := rangeO_bad (f := fun i _ d => bd_ref7_cond_73_1_0 s4 k rel kids l i d) (fin := fun _ => fn_ref7_cond_73_1_0 s4 k rel kids l) (p := exB) (o := fun i => .inr (false, s4, k, rel, l, kids)) l 0 fun j d hd => by
      unfold bd_ref7_cond_73_1_0
      simp only [n_ref_expr' d (hx d (List.mem_of_getElem? hd)), optC_some]
      cases exB d <;> rfl
    exact ⟨true, (rg_ref7_cond_73_1_0 s4 k rel kids l () h0).trans q⟩
  obtain ⟨j', q'⟩ := rangeO_bad (f := fun i _ d => bd_ref7_cond_73_3_0 k rel l kids i d) (fin := fun _ => fn_ref7_cond_73_3_0 k rel l kids) (p := cdB) (o := fun i => .inr false) kids 0 fun j d hd => by
    unfold bd_ref7_cond_73_3_0
    simp only [h d (List.mem_of_getElem? hd), optC_some]
    cases cdB d <;> rfl
  have e' : L_ref7_cond_73_3_0 ((kids.length : Int), 0, k, rel, l, kids) = _ := (rg_ref7_cond_73_3_0 k rel l kids () hl).trans q'
  have t : ∀ a b : Int, (bif (l.length : Int) != a then some false else bif (kids.length : Int) != b then some false else optC (L_ref7_cond_73_1_0 (a, b, 0, k, rel, l, kids)) none fun d5 =>
      Sum.elim (fun e6 => optC (L_ref7_cond_73_3_0 (e6.1, 0, e6.2)) none fun d7 => Sum.elim (fun e8 => some true) (fun e8 => some e8) d7) (fun e6 => some e6.1) d5) = some ((!((l.length : Int) != a)) && ((!((kids.length : Int) != b)) && (l.all exB && kids.all cdB))) := fun a b => by
    cases h1 : ((l.length : Int) != a)
    · cases h2 : ((kids.length : Int) != b)
      · have h1 : (l.length : Int) = a := by simpa using h1
        have h2 : (kids.length : Int) = b := by simpa using h2
        subst h1 h2
        obtain ⟨_, e⟩ := e (kids.length : Int)
        rw [e]
        cases l.all exB
        · rfl
        · simp only [cond_true, cond_false, optC_some, Sum.elim_inl, e']
          cases kids.all cdB <;> rfl
      · rfl
    · rfl
  have t1 : (bif (l.length : Int) != 2 then some false else bif (kids.length : Int) != 0 then some false else bif decide (rel < 1) then some false else bif decide (rel > 6) then some false else optC (L_ref7_cond_73_1_0 (2, 0, 0, k, rel, l, kids)) none fun d5 =>
      Sum.elim (fun e6 => optC (L_ref7_cond_73_3_0 (e6.1, 0, e6.2)) none fun d7 => Sum.elim (fun e8 => some true) (fun e8 => some e8) d7) (fun e6 => some e6.1) d5) = some ((decide (1 ≤ rel) && decide (rel ≤ 6)) && ((!((l.length : Int) != 2)) && ((!((kids.length : Int) != 0)) && (l.all exB && kids.all cdB)))) := by
    have t := t 2 0
    by_cases h1 : rel < 1
    · rw [decide_eq_true h1, decide_eq_false (show ¬ 1 ≤ rel by omega)]
      cases ((l.length : Int) != 2) <;> cases ((kids.length : Int) != 0) <;> rfl
    · by_cases h2 : rel > 6
      · rw [decide_eq_false h1, decide_eq_true h2, decide_eq_true (show 1 ≤ rel by omega), decide_eq_false (show ¬ rel ≤ 6 by omega)]
        cases ((l.length : Int) != 2) <;> cases ((kids.length : Int) != 0) <;> rfl
      · rw [decide_eq_false h1, decide_eq_false h2, decide_eq_true (show 1 ≤ rel by omega), decide_eq_true (show rel ≤ 6 by omega)]
        exact t
  unfold g_ref7_cond
  rw [cdB_eq]
  simp only []
  rw [t1, t 0 1, t 0 2, neB' 0 0 l.length rfl, neB' 2 2 l.length rfl, neB' 0 0 kids.length rfl, neB' 1 1 kids.length rfl, neB' 2 2 kids.length rfl]
  simp only [Bool.not_not]
  cases k == 1
  · cases k == 2
    · cases k == 3
      · cases k == 4
        · rfl
        · simp only [cond_true, cond_false, Bool.and_comm, Bool.and_left_comm, Bool.and_assoc, Bool.true_and]
      · simp only [cond_true, cond_false, Bool.and_comm, Bool.and_left_comm, Bool.and_assoc, Bool.true_and]
    · simp only [cond_true, cond_false, Bool.and_comm, Bool.and_left_comm, Bool.and_assoc, Bool.true_and]
  · simp only [cond_true, cond_false, Bool.and_comm, Bool.and_left_comm, Bool.and_assoc, Bool.true_and]
end
theorem it_ref_cond (t : T1) (ht : ok1 t) : ∀ k, SizeOf.sizeOf t ≤ k → (it_ref7_cond k).1 (uT1 t, ()) = some (cdB t) := by
  induction ht with
  | @mk c rel l kids h0 hl hx h ih =>
    intro k hk
    rw [T1.mk.sizeOf_spec] at hk
    obtain ⟨k, rfl⟩ : ∃ m, k = m + 1 := ⟨k - 1, by omega⟩
    letI : Rec_ref7_cond := ⟨(it_ref7_cond k).1, (it_ref7_cond k).2⟩
    refine ref_cond c rel l kids h0 hl hx fun d hd => ih d hd k ?_
    have := List.sizeOf_lt_of_mem hd
    simp only [Prod.mk.sizeOf_spec] at hk
    omega
theorem n_ref_cond (e : Cd) (ht : ok1 (.mk e)) : G_ref7_cond (e, ()) = some (cdB (.mk e)) :=
  it_ref_cond (.mk e) ht _ (by rw [T1.mk.sizeOf_spec]; show 1 + SizeOf.sizeOf e ≤ (1 + SizeOf.sizeOf e + SizeOf.sizeOf ()) + 1; omega)
end Go.Proofs.YtmjbedjnojcmfaaDoor.Ex

namespace Go.Proofs.YtmjbedjnojcmfaaDoor.Ex
open Go.Proofs Go.Proofs.YtmjbedjnojcmfaaDoor
set_option maxRecDepth 100000
set_option maxHeartbeats 2000000
set_option linter.unusedVariables false
set_option linter.unusedSimpArgs false
def ash_check_isStmt : List Sh := [.dat tSm]
def kp_check_isStmt_64_0 : Nat → List Nat := fun c => bif c.beq 0 then [0, 1, 7, 8] else [4]
class Rec_check_isStmt where
  K : (Stm × Unit) → Option Bool
  s : SoundA Tryd.prog 31 (conP true ash_check_isStmt (.dat .bool) K)
section
variable [Rec_check_isStmt]
noncomputable def sp_check_isStmt : List Con := [⟨25, con_check_isName, snd_check_isName⟩, ⟨61, con_check_isExpr, snd_check_isExpr⟩, ⟨62, con_check_isCond, snd_check_isCond⟩, ⟨31, (conP true ash_check_isStmt (.dat .bool) Rec_check_isStmt.K), Rec_check_isStmt.s⟩]
def s_check_isStmt_64_0_1 : StS := ⟨[(0, .sl (.mu 2)), (1, .clo 37 [] [.ptr 2 0]), (7, .int .i64), (8, .int .i64)], [(2, .box [.clo 31 [] []]), (1, .box [.clo 31 [] []]), (0, .box [.int .i64, .str, .int .i64, .int .i64, .int .i64, .str, .sl (.mu 0), .int .i64, .int .i64, .int .i64, .str, .sl (.mu 0), .int .i64, .int .i64, .sl (.mu 0), .sl (.mu 1), .sl (.mu 2), .sl (.mu 2)])], 3⟩
def x_check_isStmt_64_0_1_0 : StS := ⟨[(4, .undef)], [(2, .box [.clo 31 [] []]), (1, .box [.clo 31 [] []]), (0, .box [.int .i64, .str, .int .i64, .int .i64, .int .i64, .str, .sl (.mu 0), .int .i64, .int .i64, .int .i64, .str, .sl (.mu 0), .int .i64, .int .i64, .sl (.mu 0), .sl (.mu 1), .sl (.mu 2), .sl (.mu 2)])], 3⟩
def x_check_isStmt_64_0_1_1 : StS := ⟨[(4, .int .i64)], [(2, .box [.clo 31 [] []]), (1, .box [.clo 31 [] []]), (0, .box [.int .i64, .str, .int .i64, .int .i64, .int .i64, .str, .sl (.mu 0), .int .i64, .int .i64, .int .i64, .str, .sl (.mu 0), .int .i64, .int .i64, .sl (.mu 0), .sl (.mu 1), .sl (.mu 2), .sl (.mu 2)])], 3⟩
abbrev X_check_isStmt_64_0_1 := ((List (RT.C 2)) × Int × Int × Int × ByteArray × Int × Int × Int × ByteArray × (List (RT.C 0)) × Int × Int × Int × ByteArray × (List (RT.C 0)) × Int × Int × (List (RT.C 0)) × (List (RT.C 1)) × (List (RT.C 2)) × (List (RT.C 2)))
def fl_check_isStmt_64_0_1 (d : StD s_check_isStmt_64_0_1) : X_check_isStmt_64_0_1 := (d.1.1, d.1.2.2.1, d.1.2.2.2.1, d.2.2.2.1.1, d.2.2.2.1.2.1, d.2.2.2.1.2.2.1, d.2.2.2.1.2.2.2.1, d.2.2.2.1.2.2.2.2.1, d.2.2.2.1.2.2.2.2.2.1, d.2.2.2.1.2.2.2.2.2.2.1, d.2.2.2.1.2.2.2.2.2.2.2.1, d.2.2.2.1.2.2.2.2.2.2.2.2.1, d.2.2.2.1.2.2.2.2.2.2.2.2.2.1, d.2.2.2.1.2.2.2.2.2.2.2.2.2.2.1, d.2.2.2.1.2.2.2.2.2.2.2.2.2.2.2.1, d.2.2.2.1.2.2.2.2.2.2.2.2.2.2.2.2.1, d.2.2.2.1.2.2.2.2.2.2.2.2.2.2.2.2.2.1, d.2.2.2.1.2.2.2.2.2.2.2.2.2.2.2.2.2.2.1, d.2.2.2.1.2.2.2.2.2.2.2.2.2.2.2.2.2.2.2.1, d.2.2.2.1.2.2.2.2.2.2.2.2.2.2.2.2.2.2.2.2.1, d.2.2.2.1.2.2.2.2.2.2.2.2.2.2.2.2.2.2.2.2.2.1)
def un_check_isStmt_64_0_1 (x : X_check_isStmt_64_0_1) : StD s_check_isStmt_64_0_1 := ((x.1, ((), ((), ())), x.2.1, x.2.2.1, ()), ((((), ()), ()), (((), ()), ()), (x.2.2.2.1, x.2.2.2.2.1, x.2.2.2.2.2.1, x.2.2.2.2.2.2.1, x.2.2.2.2.2.2.2.1, x.2.2.2.2.2.2.2.2.1, x.2.2.2.2.2.2.2.2.2.1, x.2.2.2.2.2.2.2.2.2.2.1, x.2.2.2.2.2.2.2.2.2.2.2.1, x.2.2.2.2.2.2.2.2.2.2.2.2.1, x.2.2.2.2.2.2.2.2.2.2.2.2.2.1, x.2.2.2.2.2.2.2.2.2.2.2.2.2.2.1, x.2.2.2.2.2.2.2.2.2.2.2.2.2.2.2.1, x.2.2.2.2.2.2.2.2.2.2.2.2.2.2.2.2.1, x.2.2.2.2.2.2.2.2.2.2.2.2.2.2.2.2.2.1, x.2.2.2.2.2.2.2.2.2.2.2.2.2.2.2.2.2.2.1, x.2.2.2.2.2.2.2.2.2.2.2.2.2.2.2.2.2.2.2.1, x.2.2.2.2.2.2.2.2.2.2.2.2.2.2.2.2.2.2.2.2, ()), ()))
abbrev X_check_isStmt_64_0_1_0 := (Int × ByteArray × Int × Int × Int × ByteArray × (List (RT.C 0)) × Int × Int × Int × ByteArray × (List (RT.C 0)) × Int × Int × (List (RT.C 0)) × (List (RT.C 1)) × (List (RT.C 2)) × (List (RT.C 2)))
def fl_check_isStmt_64_0_1_0 (d : StD x_check_isStmt_64_0_1_0) : X_check_isStmt_64_0_1_0 := (d.2.2.2.1.1, d.2.2.2.1.2.1, d.2.2.2.1.2.2.1, d.2.2.2.1.2.2.2.1, d.2.2.2.1.2.2.2.2.1, d.2.2.2.1.2.2.2.2.2.1, d.2.2.2.1.2.2.2.2.2.2.1, d.2.2.2.1.2.2.2.2.2.2.2.1, d.2.2.2.1.2.2.2.2.2.2.2.2.1, d.2.2.2.1.2.2.2.2.2.2.2.2.2.1, d.2.2.2.1.2.2.2.2.2.2.2.2.2.2.1, d.2.2.2.1.2.2.2.2.2.2.2.2.2.2.2.1, d.2.2.2.1.2.2.2.2.2.2.2.2.2.2.2.2.1, d.2.2.2.1.2.2.2.2.2.2.2.2.2.2.2.2.2.1, d.2.2.2.1.2.2.2.2.2.2.2.2.2.2.2.2.2.2.1, d.2.2.2.1.2.2.2.2.2.2.2.2.2.2.2.2.2.2.2.1, d.2.2.2.1.2.2.2.2.2.2.2.2.2.2.2.2.2.2.2.2.1, d.2.2.2.1.2.2.2.2.2.2.2.2.2.2.2.2.2.2.2.2.2.1)
def un_check_isStmt_64_0_1_0 (x : X_check_isStmt_64_0_1_0) : StD x_check_isStmt_64_0_1_0 := (((), ()), ((((), ()), ()), (((), ()), ()), (x.1, x.2.1, x.2.2.1, x.2.2.2.1, x.2.2.2.2.1, x.2.2.2.2.2.1, x.2.2.2.2.2.2.1, x.2.2.2.2.2.2.2.1, x.2.2.2.2.2.2.2.2.1, x.2.2.2.2.2.2.2.2.2.1, x.2.2.2.2.2.2.2.2.2.2.1, x.2.2.2.2.2.2.2.2.2.2.2.1, x.2.2.2.2.2.2.2.2.2.2.2.2.1, x.2.2.2.2.2.2.2.2.2.2.2.2.2.1, x.2.2.2.2.2.2.2.2.2.2.2.2.2.2.1, x.2.2.2.2.2.2.2.2.2.2.2.2.2.2.2.1, x.2.2.2.2.2.2.2.2.2.2.2.2.2.2.2.2.1, x.2.2.2.2.2.2.2.2.2.2.2.2.2.2.2.2.2, ()), ()))
abbrev X_check_isStmt_64_0_1_1 := (Int × Int × ByteArray × Int × Int × Int × ByteArray × (List (RT.C 0)) × Int × Int × Int × ByteArray × (List (RT.C 0)) × Int × Int × (List (RT.C 0)) × (List (RT.C 1)) × (List (RT.C 2)) × (List (RT.C 2)))
def fl_check_isStmt_64_0_1_1 (d : StD x_check_isStmt_64_0_1_1) : X_check_isStmt_64_0_1_1 := (d.1.1, d.2.2.2.1.1, d.2.2.2.1.2.1, d.2.2.2.1.2.2.1, d.2.2.2.1.2.2.2.1, d.2.2.2.1.2.2.2.2.1, d.2.2.2.1.2.2.2.2.2.1, d.2.2.2.1.2.2.2.2.2.2.1, d.2.2.2.1.2.2.2.2.2.2.2.1, d.2.2.2.1.2.2.2.2.2.2.2.2.1, d.2.2.2.1.2.2.2.2.2.2.2.2.2.1, d.2.2.2.1.2.2.2.2.2.2.2.2.2.2.1, d.2.2.2.1.2.2.2.2.2.2.2.2.2.2.2.1, d.2.2.2.1.2.2.2.2.2.2.2.2.2.2.2.2.1, d.2.2.2.1.2.2.2.2.2.2.2.2.2.2.2.2.2.1, d.2.2.2.1.2.2.2.2.2.2.2.2.2.2.2.2.2.2.1, d.2.2.2.1.2.2.2.2.2.2.2.2.2.2.2.2.2.2.2.1, d.2.2.2.1.2.2.2.2.2.2.2.2.2.2.2.2.2.2.2.2.1, d.2.2.2.1.2.2.2.2.2.2.2.2.2.2.2.2.2.2.2.2.2.1)
def un_check_isStmt_64_0_1_1 (x : X_check_isStmt_64_0_1_1) : StD x_check_isStmt_64_0_1_1 := ((x.1, ()), ((((), ()), ()), (((), ()), ()), (x.2.1, x.2.2.1, x.2.2.2.1, x.2.2.2.2.1, x.2.2.2.2.2.1, x.2.2.2.2.2.2.1, x.2.2.2.2.2.2.2.1, x.2.2.2.2.2.2.2.2.1, x.2.2.2.2.2.2.2.2.2.1, x.2.2.2.2.2.2.2.2.2.2.1, x.2.2.2.2.2.2.2.2.2.2.2.1, x.2.2.2.2.2.2.2.2.2.2.2.2.1, x.2.2.2.2.2.2.2.2.2.2.2.2.2.1, x.2.2.2.2.2.2.2.2.2.2.2.2.2.2.1, x.2.2.2.2.2.2.2.2.2.2.2.2.2.2.2.1, x.2.2.2.2.2.2.2.2.2.2.2.2.2.2.2.2.1, x.2.2.2.2.2.2.2.2.2.2.2.2.2.2.2.2.2.1, x.2.2.2.2.2.2.2.2.2.2.2.2.2.2.2.2.2.2, ()), ()))
noncomputable def st_check_isStmt_64_0_1 (s0 : (List (RT.C 2))) (s7 : Int) (s8 : Int) (b0 : Int) (b0_1 : ByteArray) (b0_2 : Int) (b0_3 : Int) (b0_4 : Int) (b0_5 : ByteArray) (b0_6 : (List (RT.C 0))) (b0_7 : Int) (b0_8 : Int) (b0_9 : Int) (b0_10 : ByteArray) (b0_11 : (List (RT.C 0))) (b0_12 : Int) (b0_13 : Int) (b0_14 : (List (RT.C 0))) (b0_15 : (List (RT.C 1))) (b0_16 : (List (RT.C 2))) (b0_17 : (List (RT.C 2))) : Option (((List (RT.C 2)) × Int × Int × Int × ByteArray × Int × Int × Int × ByteArray × (List (RT.C 0)) × Int × Int × Int × ByteArray × (List (RT.C 0)) × Int × Int × (List (RT.C 0)) × (List (RT.C 1)) × (List (RT.C 2)) × (List (RT.C 2))) ⊕ ((Int × ByteArray × Int × Int × Int × ByteArray × (List (RT.C 0)) × Int × Int × Int × ByteArray × (List (RT.C 0)) × Int × Int × (List (RT.C 0)) × (List (RT.C 1)) × (List (RT.C 2)) × (List (RT.C 2))) ⊕ (Int × Int × ByteArray × Int × Int × Int × ByteArray × (List (RT.C 0)) × Int × Int × Int × ByteArray × (List (RT.C 0)) × Int × Int × (List (RT.C 0)) × (List (RT.C 1)) × (List (RT.C 2)) × (List (RT.C 2))))) :=
  bif decide (s8 < s7) then
 bif decide (0 ≤ s8) then
 optC s0[s8.toNat]? none fun d25 ↦
 optC (Rec_check_isStmt.K (uT2 d25, ())) none fun d26 ↦
 bif !d26 then some (Sum.inr (Sum.inr (s8, b0, b0_1, b0_2, b0_3, b0_4, b0_5, b0_6, b0_7, b0_8, b0_9, b0_10, b0_11, b0_12, b0_13, b0_14, b0_15, b0_16, b0_17)))
 else some (Sum.inl (s0, s7, Go.IntKind.i64.wrap (s8 + 1), b0, b0_1, b0_2, b0_3, b0_4, b0_5, b0_6, b0_7, b0_8, b0_9, b0_10, b0_11, b0_12, b0_13, b0_14, b0_15, b0_16, b0_17))
 else none
 else some (Sum.inr (Sum.inl (b0, b0_1, b0_2, b0_3, b0_4, b0_5, b0_6, b0_7, b0_8, b0_9, b0_10, b0_11, b0_12, b0_13, b0_14, b0_15, b0_16, b0_17)))
noncomputable def sx_check_isStmt_64_0_1 (x : X_check_isStmt_64_0_1) : Option (X_check_isStmt_64_0_1 ⊕ (X_check_isStmt_64_0_1_0 ⊕ X_check_isStmt_64_0_1_1)) := st_check_isStmt_64_0_1 x.1 x.2.1 x.2.2.1 x.2.2.2.1 x.2.2.2.2.1 x.2.2.2.2.2.1 x.2.2.2.2.2.2.1 x.2.2.2.2.2.2.2.1 x.2.2.2.2.2.2.2.2.1 x.2.2.2.2.2.2.2.2.2.1 x.2.2.2.2.2.2.2.2.2.2.1 x.2.2.2.2.2.2.2.2.2.2.2.1 x.2.2.2.2.2.2.2.2.2.2.2.2.1 x.2.2.2.2.2.2.2.2.2.2.2.2.2.1 x.2.2.2.2.2.2.2.2.2.2.2.2.2.2.1 x.2.2.2.2.2.2.2.2.2.2.2.2.2.2.2.1 x.2.2.2.2.2.2.2.2.2.2.2.2.2.2.2.2.1 x.2.2.2.2.2.2.2.2.2.2.2.2.2.2.2.2.2.1 x.2.2.2.2.2.2.2.2.2.2.2.2.2.2.2.2.2.2.1 x.2.2.2.2.2.2.2.2.2.2.2.2.2.2.2.2.2.2.2.1 x.2.2.2.2.2.2.2.2.2.2.2.2.2.2.2.2.2.2.2.2
theorem rn_check_isStmt_64_0_1 (x : X_check_isStmt_64_0_1) : rdX (cxU sp_check_isStmt [] 40 (1048576 ^ 9)) keeps 8 ⟨64, 19, keeps 64, 3⟩ 0 (bodyX 64 0) 3 kp_check_isStmt_64_0 (sT s_check_isStmt_64_0_1 (un_check_isStmt_64_0_1 x)) (sH s_check_isStmt_64_0_1 (un_check_isStmt_64_0_1 x)) (rdO (fun T h => (rdS s_check_isStmt_64_0_1 T h).map fl_check_isStmt_64_0_1) (getOr (getE 2 x_check_isStmt_64_0_1_0 fl_check_isStmt_64_0_1_0) (getE 1 x_check_isStmt_64_0_1_1 fl_check_isStmt_64_0_1_1))) = sx_check_isStmt_64_0_1 x := by kernel_rfl
noncomputable def L_check_isStmt_64_0_1 (x : X_check_isStmt_64_0_1) : Option (X_check_isStmt_64_0_1_0 ⊕ X_check_isStmt_64_0_1_1) := iterO (fun x => st_check_isStmt_64_0_1 x.1 x.2.1 x.2.2.1 x.2.2.2.1 x.2.2.2.2.1 x.2.2.2.2.2.1 x.2.2.2.2.2.2.1 x.2.2.2.2.2.2.2.1 x.2.2.2.2.2.2.2.2.1 x.2.2.2.2.2.2.2.2.2.1 x.2.2.2.2.2.2.2.2.2.2.1 x.2.2.2.2.2.2.2.2.2.2.2.1 x.2.2.2.2.2.2.2.2.2.2.2.2.1 x.2.2.2.2.2.2.2.2.2.2.2.2.2.1 x.2.2.2.2.2.2.2.2.2.2.2.2.2.2.1 x.2.2.2.2.2.2.2.2.2.2.2.2.2.2.2.1 x.2.2.2.2.2.2.2.2.2.2.2.2.2.2.2.2.1 x.2.2.2.2.2.2.2.2.2.2.2.2.2.2.2.2.2.1 x.2.2.2.2.2.2.2.2.2.2.2.2.2.2.2.2.2.2.1 x.2.2.2.2.2.2.2.2.2.2.2.2.2.2.2.2.2.2.2.1 x.2.2.2.2.2.2.2.2.2.2.2.2.2.2.2.2.2.2.2.2) FUEL x
def s_check_isStmt_64_0_0 : StS := ⟨[(0, .sl (.mu 2)), (1, .clo 37 [] [.ptr 1 0]), (7, .int .i64), (8, .int .i64)], [(1, .box [.clo 31 [] []]), (0, .box [.int .i64, .str, .int .i64, .int .i64, .int .i64, .str, .sl (.mu 0), .int .i64, .int .i64, .int .i64, .str, .sl (.mu 0), .int .i64, .int .i64, .sl (.mu 0), .sl (.mu 1), .sl (.mu 2), .sl (.mu 2)])], 2⟩
def x_check_isStmt_64_0_0_0 : StS := ⟨[(4, .undef)], [(1, .box [.clo 31 [] []]), (0, .box [.int .i64, .str, .int .i64, .int .i64, .int .i64, .str, .sl (.mu 0), .int .i64, .int .i64, .int .i64, .str, .sl (.mu 0), .int .i64, .int .i64, .sl (.mu 0), .sl (.mu 1), .sl (.mu 2), .sl (.mu 2)])], 2⟩
def x_check_isStmt_64_0_0_1 : StS := ⟨[(4, .int .i64)], [(1, .box [.clo 31 [] []]), (0, .box [.int .i64, .str, .int .i64, .int .i64, .int .i64, .str, .sl (.mu 0), .int .i64, .int .i64, .int .i64, .str, .sl (.mu 0), .int .i64, .int .i64, .sl (.mu 0), .sl (.mu 1), .sl (.mu 2), .sl (.mu 2)])], 2⟩
abbrev X_check_isStmt_64_0_0 := ((List (RT.C 2)) × Int × Int × Int × ByteArray × Int × Int × Int × ByteArray × (List (RT.C 0)) × Int × Int × Int × ByteArray × (List (RT.C 0)) × Int × Int × (List (RT.C 0)) × (List (RT.C 1)) × (List (RT.C 2)) × (List (RT.C 2)))
def fl_check_isStmt_64_0_0 (d : StD s_check_isStmt_64_0_0) : X_check_isStmt_64_0_0 := (d.1.1, d.1.2.2.1, d.1.2.2.2.1, d.2.2.1.1, d.2.2.1.2.1, d.2.2.1.2.2.1, d.2.2.1.2.2.2.1, d.2.2.1.2.2.2.2.1, d.2.2.1.2.2.2.2.2.1, d.2.2.1.2.2.2.2.2.2.1, d.2.2.1.2.2.2.2.2.2.2.1, d.2.2.1.2.2.2.2.2.2.2.2.1, d.2.2.1.2.2.2.2.2.2.2.2.2.1, d.2.2.1.2.2.2.2.2.2.2.2.2.2.1, d.2.2.1.2.2.2.2.2.2.2.2.2.2.2.1, d.2.2.1.2.2.2.2.2.2.2.2.2.2.2.2.1, d.2.2.1.2.2.2.2.2.2.2.2.2.2.2.2.2.1, d.2.2.1.2.2.2.2.2.2.2.2.2.2.2.2.2.2.1, d.2.2.1.2.2.2.2.2.2.2.2.2.2.2.2.2.2.2.1, d.2.2.1.2.2.2.2.2.2.2.2.2.2.2.2.2.2.2.2.1, d.2.2.1.2.2.2.2.2.2.2.2.2.2.2.2.2.2.2.2.2.1)
def un_check_isStmt_64_0_0 (x : X_check_isStmt_64_0_0) : StD s_check_isStmt_64_0_0 := ((x.1, ((), ((), ())), x.2.1, x.2.2.1, ()), ((((), ()), ()), (x.2.2.2.1, x.2.2.2.2.1, x.2.2.2.2.2.1, x.2.2.2.2.2.2.1, x.2.2.2.2.2.2.2.1, x.2.2.2.2.2.2.2.2.1, x.2.2.2.2.2.2.2.2.2.1, x.2.2.2.2.2.2.2.2.2.2.1, x.2.2.2.2.2.2.2.2.2.2.2.1, x.2.2.2.2.2.2.2.2.2.2.2.2.1, x.2.2.2.2.2.2.2.2.2.2.2.2.2.1, x.2.2.2.2.2.2.2.2.2.2.2.2.2.2.1, x.2.2.2.2.2.2.2.2.2.2.2.2.2.2.2.1, x.2.2.2.2.2.2.2.2.2.2.2.2.2.2.2.2.1, x.2.2.2.2.2.2.2.2.2.2.2.2.2.2.2.2.2.1, x.2.2.2.2.2.2.2.2.2.2.2.2.2.2.2.2.2.2.1, x.2.2.2.2.2.2.2.2.2.2.2.2.2.2.2.2.2.2.2.1, x.2.2.2.2.2.2.2.2.2.2.2.2.2.2.2.2.2.2.2.2, ()), ()))
abbrev X_check_isStmt_64_0_0_0 := (Int × ByteArray × Int × Int × Int × ByteArray × (List (RT.C 0)) × Int × Int × Int × ByteArray × (List (RT.C 0)) × Int × Int × (List (RT.C 0)) × (List (RT.C 1)) × (List (RT.C 2)) × (List (RT.C 2)))
def fl_check_isStmt_64_0_0_0 (d : StD x_check_isStmt_64_0_0_0) : X_check_isStmt_64_0_0_0 := (d.2.2.1.1, d.2.2.1.2.1, d.2.2.1.2.2.1, d.2.2.1.2.2.2.1, d.2.2.1.2.2.2.2.1, d.2.2.1.2.2.2.2.2.1, d.2.2.1.2.2.2.2.2.2.1, d.2.2.1.2.2.2.2.2.2.2.1, d.2.2.1.2.2.2.2.2.2.2.2.1, d.2.2.1.2.2.2.2.2.2.2.2.2.1, d.2.2.1.2.2.2.2.2.2.2.2.2.2.1, d.2.2.1.2.2.2.2.2.2.2.2.2.2.2.1, d.2.2.1.2.2.2.2.2.2.2.2.2.2.2.2.1, d.2.2.1.2.2.2.2.2.2.2.2.2.2.2.2.2.1, d.2.2.1.2.2.2.2.2.2.2.2.2.2.2.2.2.2.1, d.2.2.1.2.2.2.2.2.2.2.2.2.2.2.2.2.2.2.1, d.2.2.1.2.2.2.2.2.2.2.2.2.2.2.2.2.2.2.2.1, d.2.2.1.2.2.2.2.2.2.2.2.2.2.2.2.2.2.2.2.2.1)
def un_check_isStmt_64_0_0_0 (x : X_check_isStmt_64_0_0_0) : StD x_check_isStmt_64_0_0_0 := (((), ()), ((((), ()), ()), (x.1, x.2.1, x.2.2.1, x.2.2.2.1, x.2.2.2.2.1, x.2.2.2.2.2.1, x.2.2.2.2.2.2.1, x.2.2.2.2.2.2.2.1, x.2.2.2.2.2.2.2.2.1, x.2.2.2.2.2.2.2.2.2.1, x.2.2.2.2.2.2.2.2.2.2.1, x.2.2.2.2.2.2.2.2.2.2.2.1, x.2.2.2.2.2.2.2.2.2.2.2.2.1, x.2.2.2.2.2.2.2.2.2.2.2.2.2.1, x.2.2.2.2.2.2.2.2.2.2.2.2.2.2.1, x.2.2.2.2.2.2.2.2.2.2.2.2.2.2.2.1, x.2.2.2.2.2.2.2.2.2.2.2.2.2.2.2.2.1, x.2.2.2.2.2.2.2.2.2.2.2.2.2.2.2.2.2, ()), ()))
abbrev X_check_isStmt_64_0_0_1 := (Int × Int × ByteArray × Int × Int × Int × ByteArray × (List (RT.C 0)) × Int × Int × Int × ByteArray × (List (RT.C 0)) × Int × Int × (List (RT.C 0)) × (List (RT.C 1)) × (List (RT.C 2)) × (List (RT.C 2)))
def fl_check_isStmt_64_0_0_1 (d : StD x_check_isStmt_64_0_0_1) : X_check_isStmt_64_0_0_1 := (d.1.1, d.2.2.1.1, d.2.2.1.2.1, d.2.2.1.2.2.1, d.2.2.1.2.2.2.1, d.2.2.1.2.2.2.2.1, d.2.2.1.2.2.2.2.2.1, d.2.2.1.2.2.2.2.2.2.1, d.2.2.1.2.2.2.2.2.2.2.1, d.2.2.1.2.2.2.2.2.2.2.2.1, d.2.2.1.2.2.2.2.2.2.2.2.2.1, d.2.2.1.2.2.2.2.2.2.2.2.2.2.1, d.2.2.1.2.2.2.2.2.2.2.2.2.2.2.1, d.2.2.1.2.2.2.2.2.2.2.2.2.2.2.2.1, d.2.2.1.2.2.2.2.2.2.2.2.2.2.2.2.2.1, d.2.2.1.2.2.2.2.2.2.2.2.2.2.2.2.2.2.1, d.2.2.1.2.2.2.2.2.2.2.2.2.2.2.2.2.2.2.1, d.2.2.1.2.2.2.2.2.2.2.2.2.2.2.2.2.2.2.2.1, d.2.2.1.2.2.2.2.2.2.2.2.2.2.2.2.2.2.2.2.2.1)
def un_check_isStmt_64_0_0_1 (x : X_check_isStmt_64_0_0_1) : StD x_check_isStmt_64_0_0_1 := ((x.1, ()), ((((), ()), ()), (x.2.1, x.2.2.1, x.2.2.2.1, x.2.2.2.2.1, x.2.2.2.2.2.1, x.2.2.2.2.2.2.1, x.2.2.2.2.2.2.2.1, x.2.2.2.2.2.2.2.2.1, x.2.2.2.2.2.2.2.2.2.1, x.2.2.2.2.2.2.2.2.2.2.1, x.2.2.2.2.2.2.2.2.2.2.2.1, x.2.2.2.2.2.2.2.2.2.2.2.2.1, x.2.2.2.2.2.2.2.2.2.2.2.2.2.1, x.2.2.2.2.2.2.2.2.2.2.2.2.2.2.1, x.2.2.2.2.2.2.2.2.2.2.2.2.2.2.2.1, x.2.2.2.2.2.2.2.2.2.2.2.2.2.2.2.2.1, x.2.2.2.2.2.2.2.2.2.2.2.2.2.2.2.2.2.1, x.2.2.2.2.2.2.2.2.2.2.2.2.2.2.2.2.2.2, ()), ()))
noncomputable def st_check_isStmt_64_0_0 (s0 : (List (RT.C 2))) (s7 : Int) (s8 : Int) (b0 : Int) (b0_1 : ByteArray) (b0_2 : Int) (b0_3 : Int) (b0_4 : Int) (b0_5 : ByteArray) (b0_6 : (List (RT.C 0))) (b0_7 : Int) (b0_8 : Int) (b0_9 : Int) (b0_10 : ByteArray) (b0_11 : (List (RT.C 0))) (b0_12 : Int) (b0_13 : Int) (b0_14 : (List (RT.C 0))) (b0_15 : (List (RT.C 1))) (b0_16 : (List (RT.C 2))) (b0_17 : (List (RT.C 2))) : Option (((List (RT.C 2)) × Int × Int × Int × ByteArray × Int × Int × Int × ByteArray × (List (RT.C 0)) × Int × Int × Int × ByteArray × (List (RT.C 0)) × Int × Int × (List (RT.C 0)) × (List (RT.C 1)) × (List (RT.C 2)) × (List (RT.C 2))) ⊕ ((Int × ByteArray × Int × Int × Int × ByteArray × (List (RT.C 0)) × Int × Int × Int × ByteArray × (List (RT.C 0)) × Int × Int × (List (RT.C 0)) × (List (RT.C 1)) × (List (RT.C 2)) × (List (RT.C 2))) ⊕ (Int × Int × ByteArray × Int × Int × Int × ByteArray × (List (RT.C 0)) × Int × Int × Int × ByteArray × (List (RT.C 0)) × Int × Int × (List (RT.C 0)) × (List (RT.C 1)) × (List (RT.C 2)) × (List (RT.C 2))))) :=
  bif decide (s8 < s7) then
 bif decide (0 ≤ s8) then
 optC s0[s8.toNat]? none fun d25 ↦
 optC (Rec_check_isStmt.K (uT2 d25, ())) none fun d26 ↦
 bif !d26 then some (Sum.inr (Sum.inr (s8, b0, b0_1, b0_2, b0_3, b0_4, b0_5, b0_6, b0_7, b0_8, b0_9, b0_10, b0_11, b0_12, b0_13, b0_14, b0_15, b0_16, b0_17)))
 else some (Sum.inl (s0, s7, Go.IntKind.i64.wrap (s8 + 1), b0, b0_1, b0_2, b0_3, b0_4, b0_5, b0_6, b0_7, b0_8, b0_9, b0_10, b0_11, b0_12, b0_13, b0_14, b0_15, b0_16, b0_17))
 else none
 else some (Sum.inr (Sum.inl (b0, b0_1, b0_2, b0_3, b0_4, b0_5, b0_6, b0_7, b0_8, b0_9, b0_10, b0_11, b0_12, b0_13, b0_14, b0_15, b0_16, b0_17)))
noncomputable def sx_check_isStmt_64_0_0 (x : X_check_isStmt_64_0_0) : Option (X_check_isStmt_64_0_0 ⊕ (X_check_isStmt_64_0_0_0 ⊕ X_check_isStmt_64_0_0_1)) := st_check_isStmt_64_0_0 x.1 x.2.1 x.2.2.1 x.2.2.2.1 x.2.2.2.2.1 x.2.2.2.2.2.1 x.2.2.2.2.2.2.1 x.2.2.2.2.2.2.2.1 x.2.2.2.2.2.2.2.2.1 x.2.2.2.2.2.2.2.2.2.1 x.2.2.2.2.2.2.2.2.2.2.1 x.2.2.2.2.2.2.2.2.2.2.2.1 x.2.2.2.2.2.2.2.2.2.2.2.2.1 x.2.2.2.2.2.2.2.2.2.2.2.2.2.1 x.2.2.2.2.2.2.2.2.2.2.2.2.2.2.1 x.2.2.2.2.2.2.2.2.2.2.2.2.2.2.2.1 x.2.2.2.2.2.2.2.2.2.2.2.2.2.2.2.2.1 x.2.2.2.2.2.2.2.2.2.2.2.2.2.2.2.2.2.1 x.2.2.2.2.2.2.2.2.2.2.2.2.2.2.2.2.2.2.1 x.2.2.2.2.2.2.2.2.2.2.2.2.2.2.2.2.2.2.2.1 x.2.2.2.2.2.2.2.2.2.2.2.2.2.2.2.2.2.2.2.2
theorem rn_check_isStmt_64_0_0 (x : X_check_isStmt_64_0_0) : rdX (cxU sp_check_isStmt [] 40 (1048576 ^ 9)) keeps 8 ⟨64, 19, keeps 64, 2⟩ 0 (bodyX 64 0) 2 kp_check_isStmt_64_0 (sT s_check_isStmt_64_0_0 (un_check_isStmt_64_0_0 x)) (sH s_check_isStmt_64_0_0 (un_check_isStmt_64_0_0 x)) (rdO (fun T h => (rdS s_check_isStmt_64_0_0 T h).map fl_check_isStmt_64_0_0) (getOr (getE 2 x_check_isStmt_64_0_0_0 fl_check_isStmt_64_0_0_0) (getE 1 x_check_isStmt_64_0_0_1 fl_check_isStmt_64_0_0_1))) = sx_check_isStmt_64_0_0 x := by kernel_rfl
noncomputable def L_check_isStmt_64_0_0 (x : X_check_isStmt_64_0_0) : Option (X_check_isStmt_64_0_0_0 ⊕ X_check_isStmt_64_0_0_1) := iterO (fun x => st_check_isStmt_64_0_0 x.1 x.2.1 x.2.2.1 x.2.2.2.1 x.2.2.2.2.1 x.2.2.2.2.2.1 x.2.2.2.2.2.2.1 x.2.2.2.2.2.2.2.1 x.2.2.2.2.2.2.2.2.1 x.2.2.2.2.2.2.2.2.2.1 x.2.2.2.2.2.2.2.2.2.2.1 x.2.2.2.2.2.2.2.2.2.2.2.1 x.2.2.2.2.2.2.2.2.2.2.2.2.1 x.2.2.2.2.2.2.2.2.2.2.2.2.2.1 x.2.2.2.2.2.2.2.2.2.2.2.2.2.2.1 x.2.2.2.2.2.2.2.2.2.2.2.2.2.2.2.1 x.2.2.2.2.2.2.2.2.2.2.2.2.2.2.2.2.1 x.2.2.2.2.2.2.2.2.2.2.2.2.2.2.2.2.2.1 x.2.2.2.2.2.2.2.2.2.2.2.2.2.2.2.2.2.2.1 x.2.2.2.2.2.2.2.2.2.2.2.2.2.2.2.2.2.2.2.1 x.2.2.2.2.2.2.2.2.2.2.2.2.2.2.2.2.2.2.2.2) FUEL x
noncomputable def q_check_isStmt_64_0 : Nat → Tm → Prog (Nat × Tm) := (varP 2 (fun T h => (rdS s_check_isStmt_64_0_0 T h).map fl_check_isStmt_64_0_0) L_check_isStmt_64_0_0 (fun y => .alt y (altE 2 x_check_isStmt_64_0_0_0 un_check_isStmt_64_0_0_0) (altE 1 x_check_isStmt_64_0_0_1 un_check_isStmt_64_0_0_1)) (varP 3 (fun T h => (rdS s_check_isStmt_64_0_1 T h).map fl_check_isStmt_64_0_1) L_check_isStmt_64_0_1 (fun y => .alt y (altE 2 x_check_isStmt_64_0_1_0 un_check_isStmt_64_0_1_0) (altE 1 x_check_isStmt_64_0_1_1 un_check_isStmt_64_0_1_1)) (fun _ _ => .fail)))
noncomputable def lc_check_isStmt_64_0 : Lpc := ⟨64, 0, 19, (fun base T => .norm base (kp_check_isStmt_64_0 0) T (q_check_isStmt_64_0 base)), by kernel_rfl, by kernel_rfl, (loopU sp_check_isStmt [] 40 (1048576 ^ 9) 8 (keep := kp_check_isStmt_64_0) (q := q_check_isStmt_64_0) (by kernel_rfl) (varX_ok (s := s_check_isStmt_64_0_0) (un := un_check_isStmt_64_0_0) (by rfl) (fun _ => rfl) (getOr_ok (getE_ok (s := x_check_isStmt_64_0_0_0) (un := un_check_isStmt_64_0_0_0) (by rfl) (fun _ => rfl)) (getE_ok (s := x_check_isStmt_64_0_0_1) (un := un_check_isStmt_64_0_0_1) (by rfl) (fun _ => rfl))) (step := sx_check_isStmt_64_0_0) rn_check_isStmt_64_0_0 (fun _ _ e => ⟨_, e⟩) (altOr_ok (altE_ok 2 x_check_isStmt_64_0_0_0 un_check_isStmt_64_0_0_0) (altE_ok 1 x_check_isStmt_64_0_0_1 un_check_isStmt_64_0_0_1)) (varX_ok (s := s_check_isStmt_64_0_1) (un := un_check_isStmt_64_0_1) (by rfl) (fun _ => rfl) (getOr_ok (getE_ok (s := x_check_isStmt_64_0_1_0) (un := un_check_isStmt_64_0_1_0) (by rfl) (fun _ => rfl)) (getE_ok (s := x_check_isStmt_64_0_1_1) (un := un_check_isStmt_64_0_1_1) (by rfl) (fun _ => rfl))) (step := sx_check_isStmt_64_0_1) rn_check_isStmt_64_0_1 (fun _ _ e => ⟨_, e⟩) (altOr_ok (altE_ok 2 x_check_isStmt_64_0_1_0 un_check_isStmt_64_0_1_0) (altE_ok 1 x_check_isStmt_64_0_1_1 un_check_isStmt_64_0_1_1)) (VarOk.fail _ _))))⟩
noncomputable def g_check_isStmt (a0 : Stm) : Option Bool :=
  bif a0.1 == 1 then
 optC (G_check_isName (a0.2.1, ())) none fun d5 ↦
 bif d5 then optC (G_check_isExpr (a0.2.2.2.1, ())) none fun d6 ↦ some d6 else some false
 else
 bif a0.1 == 2 then
 optC (G_check_isName (a0.2.1, ())) none fun d5 ↦
 bif d5 then
 optC (G_check_isExpr (a0.2.2.1, ())) none fun d6 ↦
 bif d6 then optC (G_check_isExpr (a0.2.2.2.1, ())) none fun d7 ↦ some d7 else some false
 else some false
 else
 bif a0.1 == 3 then optC (G_check_isName (a0.2.1, ())) none fun d5 ↦ some d5
 else
 bif a0.1 == 4 then optC (G_check_isName (a0.2.1, ())) none fun d5 ↦ some d5
 else
 bif a0.1 == 5 then
 optC (G_check_isCond (a0.2.2.2.2.1, ())) none fun d5 ↦
 bif d5 then
 optC
 (L_check_isStmt_64_0_0
 (a0.2.2.2.2.2.1, (↑(List.length a0.2.2.2.2.2.1) : Int), 0, a0.1, a0.2.1, a0.2.2.1.1, a0.2.2.1.2.1, a0.2.2.1.2.2.1,
 a0.2.2.1.2.2.2.1, a0.2.2.1.2.2.2.2, a0.2.2.2.1.1, a0.2.2.2.1.2.1, a0.2.2.2.1.2.2.1,
 a0.2.2.2.1.2.2.2.1, a0.2.2.2.1.2.2.2.2, a0.2.2.2.2.1.1, a0.2.2.2.2.1.2.1, a0.2.2.2.2.1.2.2.1,
 a0.2.2.2.2.1.2.2.2, a0.2.2.2.2.2))
 none fun d6 ↦
 Sum.elim
 (fun e7 ↦
 optC
 (L_check_isStmt_64_0_1
 (e7.2.2.2.2.2.2.2.2.2.2.2.2.2.2.2.2.2, (↑e7.2.2.2.2.2.2.2.2.2.2.2.2.2.2.2.2.2.length : Int), 0, e7))
 none fun d8 ↦ Sum.elim (fun e9 ↦ some !decide (-1 ≥ 0)) (fun e9 ↦ some !decide (e9.1 ≥ 0)) d8)
 (fun e7 ↦
 bif !decide (e7.1 ≥ 0) then
 optC
 (L_check_isStmt_64_0_1
 (e7.2.2.2.2.2.2.2.2.2.2.2.2.2.2.2.2.2.2, (↑e7.2.2.2.2.2.2.2.2.2.2.2.2.2.2.2.2.2.2.length : Int), 0,
 e7.2))
 none fun d8 ↦ Sum.elim (fun e9 ↦ some !decide (-1 ≥ 0)) (fun e9 ↦ some !decide (e9.1 ≥ 0)) d8
 else some false)
 d6
 else some false
 else
 bif a0.1 == 6 then
 optC (G_check_isCond (a0.2.2.2.2.1, ())) none fun d5 ↦
 bif d5 then
 optC
 (L_check_isStmt_64_0_0
 (a0.2.2.2.2.2.1, (↑(List.length a0.2.2.2.2.2.1) : Int), 0, a0.1, a0.2.1, a0.2.2.1.1, a0.2.2.1.2.1, a0.2.2.1.2.2.1,
 a0.2.2.1.2.2.2.1, a0.2.2.1.2.2.2.2, a0.2.2.2.1.1, a0.2.2.2.1.2.1, a0.2.2.2.1.2.2.1,
 a0.2.2.2.1.2.2.2.1, a0.2.2.2.1.2.2.2.2, a0.2.2.2.2.1.1, a0.2.2.2.2.1.2.1, a0.2.2.2.2.1.2.2.1,
 a0.2.2.2.2.1.2.2.2, a0.2.2.2.2.2))
 none fun d6 ↦ Sum.elim (fun e7 ↦ some !decide (-1 ≥ 0)) (fun e7 ↦ some !decide (e7.1 ≥ 0)) d6
 else some false
 else bif a0.1 == 7 then optC (G_check_isCond (a0.2.2.2.2.1, ())) none fun d5 ↦ some d5 else some (a0.1 == 8)
theorem raw_check_isStmt (a0 : Stm) : evGX1 (cxU sp_check_isStmt [lc_check_isStmt_64_0] 40 (1048576 ^ 9)) keeps 8 31 ash_check_isStmt (.dat .bool) ((a0, ()) : (Stm × Unit)) = g_check_isStmt a0 := by kernel_rfl
noncomputable def GI_check_isStmt (x : (Stm × Unit)) : Option Bool := g_check_isStmt x.1
noncomputable def conI_check_isStmt : List AV → Prog AV := conP true ash_check_isStmt (.dat .bool) GI_check_isStmt
theorem sndI_check_isStmt : SoundA Tryd.prog 31 conI_check_isStmt := conP_sound (evF1_sound (tabOk_of tab_ok) (cmpsOk_of tab_ok cmps_ok) mixed (inU sp_check_isStmt [lc_check_isStmt_64_0] 40 (1048576 ^ 9)) (hspL sp_check_isStmt) keeps 8 31) true (by rfl) (by rfl) (fun x r e => (evGX1_eq _ _ _ _ _ _ _).trans ((raw_check_isStmt x.1).trans e)) (.inl rfl)
end
noncomputable def it_check_isStmt : Nat → {K : (Stm × Unit) → Option Bool // SoundA Tryd.prog 31 (conP true ash_check_isStmt (.dat .bool) K)}
  | 0 => ⟨fun _ => none, conP_none⟩
  | k + 1 => letI : Rec_check_isStmt := ⟨(it_check_isStmt k).1, (it_check_isStmt k).2⟩; ⟨GI_check_isStmt, sndI_check_isStmt⟩
noncomputable def G_check_isStmt (x : (Stm × Unit)) : Option Bool := (it_check_isStmt (SizeOf.sizeOf x + 1)).1 x
noncomputable def con_check_isStmt : List AV → Prog AV := conP true ash_check_isStmt (.dat .bool) G_check_isStmt
theorem snd_check_isStmt : SoundA Tryd.prog 31 con_check_isStmt := conP_pick (sh := ash_check_isStmt) (rs := .dat .bool) (n := fun x : (Stm × Unit) => SizeOf.sizeOf x + 1) (F := fun k => (it_check_isStmt k).1) (fun k => (it_check_isStmt k).2)
end Go.Proofs.YtmjbedjnojcmfaaDoor.Ex

namespace Go.Proofs.YtmjbedjnojcmfaaDoor.Ex
set_option maxRecDepth 100000
set_option maxHeartbeats 2000000
set_option linter.unusedVariables false
set_option linter.unusedSimpArgs false
set_option linter.unusedSectionVars false
variable [Rec_check_isStmt]
noncomputable def bd_check_isStmt_64_0_1 (b0 : Int) (b0_1 : ByteArray) (b0_2 : Int) (b0_3 : Int) (b0_4 : Int) (b0_5 : ByteArray) (b0_6 : (List (RT.C 0))) (b0_7 : Int) (b0_8 : Int) (b0_9 : Int) (b0_10 : ByteArray) (b0_11 : (List (RT.C 0))) (b0_12 : Int) (b0_13 : Int) (b0_14 : (List (RT.C 0))) (b0_15 : (List (RT.C 1))) (b0_16 : (List (RT.C 2))) (b0_17 : (List (RT.C 2))) (s0 : (List (RT.C 2))) (i : Nat)  (d : (RT.C 2)) : Option (Unit ⊕ (X_check_isStmt_64_0_1_0 ⊕ X_check_isStmt_64_0_1_1)) :=
  optC (Rec_check_isStmt.K (uT2 d, ())) (none) fun d26 ↦
   bif !d26 then
   some (Sum.inr (Sum.inr ((i : Int), b0, b0_1, b0_2, b0_3, b0_4, b0_5, b0_6, b0_7, b0_8, b0_9, b0_10, b0_11, b0_12, b0_13, b0_14, b0_15, b0_16, b0_17)))
 else some (Sum.inl ())
noncomputable def fn_check_isStmt_64_0_1 (b0 : Int) (b0_1 : ByteArray) (b0_2 : Int) (b0_3 : Int) (b0_4 : Int) (b0_5 : ByteArray) (b0_6 : (List (RT.C 0))) (b0_7 : Int) (b0_8 : Int) (b0_9 : Int) (b0_10 : ByteArray) (b0_11 : (List (RT.C 0))) (b0_12 : Int) (b0_13 : Int) (b0_14 : (List (RT.C 0))) (b0_15 : (List (RT.C 1))) (b0_16 : (List (RT.C 2))) (b0_17 : (List (RT.C 2))) (s0 : (List (RT.C 2)))  : Option (X_check_isStmt_64_0_1_0 ⊕ X_check_isStmt_64_0_1_1) :=
  some (Sum.inl (b0, b0_1, b0_2, b0_3, b0_4, b0_5, b0_6, b0_7, b0_8, b0_9, b0_10, b0_11, b0_12, b0_13, b0_14, b0_15, b0_16, b0_17))
noncomputable abbrev rx_check_isStmt_64_0_1 (b0 : Int) (b0_1 : ByteArray) (b0_2 : Int) (b0_3 : Int) (b0_4 : Int) (b0_5 : ByteArray) (b0_6 : (List (RT.C 0))) (b0_7 : Int) (b0_8 : Int) (b0_9 : Int) (b0_10 : ByteArray) (b0_11 : (List (RT.C 0))) (b0_12 : Int) (b0_13 : Int) (b0_14 : (List (RT.C 0))) (b0_15 : (List (RT.C 1))) (b0_16 : (List (RT.C 2))) (b0_17 : (List (RT.C 2))) (s0 : (List (RT.C 2))) (i : Nat) (s : Unit) : X_check_isStmt_64_0_1 := (s0, (s0.length : Int), (i : Int), b0, b0_1, b0_2, b0_3, b0_4, b0_5, b0_6, b0_7, b0_8, b0_9, b0_10, b0_11, b0_12, b0_13, b0_14, b0_15, b0_16, b0_17)
noncomputable def rv_check_isStmt_64_0_1 (b0 : Int) (b0_1 : ByteArray) (b0_2 : Int) (b0_3 : Int) (b0_4 : Int) (b0_5 : ByteArray) (b0_6 : (List (RT.C 0))) (b0_7 : Int) (b0_8 : Int) (b0_9 : Int) (b0_10 : ByteArray) (b0_11 : (List (RT.C 0))) (b0_12 : Int) (b0_13 : Int) (b0_14 : (List (RT.C 0))) (b0_15 : (List (RT.C 1))) (b0_16 : (List (RT.C 2))) (b0_17 : (List (RT.C 2))) (s0 : (List (RT.C 2))) (s : Unit) : Option (X_check_isStmt_64_0_1_0 ⊕ X_check_isStmt_64_0_1_1) := rangeO (fun i s d => bd_check_isStmt_64_0_1 b0 b0_1 b0_2 b0_3 b0_4 b0_5 b0_6 b0_7 b0_8 b0_9 b0_10 b0_11 b0_12 b0_13 b0_14 b0_15 b0_16 b0_17 s0 i  d) (fun s => fn_check_isStmt_64_0_1 b0 b0_1 b0_2 b0_3 b0_4 b0_5 b0_6 b0_7 b0_8 b0_9 b0_10 b0_11 b0_12 b0_13 b0_14 b0_15 b0_16 b0_17 s0 ) 0 s0 s
theorem rg_check_isStmt_64_0_1 (b0 : Int) (b0_1 : ByteArray) (b0_2 : Int) (b0_3 : Int) (b0_4 : Int) (b0_5 : ByteArray) (b0_6 : (List (RT.C 0))) (b0_7 : Int) (b0_8 : Int) (b0_9 : Int) (b0_10 : ByteArray) (b0_11 : (List (RT.C 0))) (b0_12 : Int) (b0_13 : Int) (b0_14 : (List (RT.C 0))) (b0_15 : (List (RT.C 1))) (b0_16 : (List (RT.C 2))) (b0_17 : (List (RT.C 2))) (s0 : (List (RT.C 2))) (s : Unit) (hl : s0.length < 9223372036854775807) : L_check_isStmt_64_0_1 (s0, (s0.length : Int), 0, b0, b0_1, b0_2, b0_3, b0_4, b0_5, b0_6, b0_7, b0_8, b0_9, b0_10, b0_11, b0_12, b0_13, b0_14, b0_15, b0_16, b0_17) = rv_check_isStmt_64_0_1 b0 b0_1 b0_2 b0_3 b0_4 b0_5 b0_6 b0_7 b0_8 b0_9 b0_10 b0_11 b0_12 b0_13 b0_14 b0_15 b0_16 b0_17 s0 s := by
  unfold L_check_isStmt_64_0_1 rv_check_isStmt_64_0_1
  refine iterO_range0 s0 (rx_check_isStmt_64_0_1 b0 b0_1 b0_2 b0_3 b0_4 b0_5 b0_6 b0_7 b0_8 b0_9 b0_10 b0_11 b0_12 b0_13 b0_14 b0_15 b0_16 b0_17 s0) _ _ ?_ ?_ s (by unfold FUEL; omega)
  · intro i s d hi hd
    have e1 : decide ((i : Int) < (s0.length : Int)) = true := decide_eq_true (by omega)
    have e2 : decide (0 ≤ (i : Int)) = true := decide_eq_true (by omega)
    have e3 : Int.toNat (i : Int) = i := Int.toNat_natCast i
    have e4 := wrap_next hi (Nat.le_of_lt hl)
    show st_check_isStmt_64_0_1 (s0) ((s0.length : Int)) ((i : Int)) (b0) (b0_1) (b0_2) (b0_3) (b0_4) (b0_5) (b0_6) (b0_7) (b0_8) (b0_9) (b0_10) (b0_11) (b0_12) (b0_13) (b0_14) (b0_15) (b0_16) (b0_17) = upd _ (bd_check_isStmt_64_0_1 b0 b0_1 b0_2 b0_3 b0_4 b0_5 b0_6 b0_7 b0_8 b0_9 b0_10 b0_11 b0_12 b0_13 b0_14 b0_15 b0_16 b0_17 s0 i  d)
    unfold st_check_isStmt_64_0_1 bd_check_isStmt_64_0_1
    simp only [e1, e2, e3, e4, hd, cond_true, cond_false, optC_some, upd_cond, upd_optC, upd_elim, upd_inl, upd_inr, upd_none]
  · intro s
    have e1 : decide ((s0.length : Int) < (s0.length : Int)) = false := decide_eq_false (by omega)
    show st_check_isStmt_64_0_1 (s0) ((s0.length : Int)) ((s0.length : Int)) (b0) (b0_1) (b0_2) (b0_3) (b0_4) (b0_5) (b0_6) (b0_7) (b0_8) (b0_9) (b0_10) (b0_11) (b0_12) (b0_13) (b0_14) (b0_15) (b0_16) (b0_17) = _
    unfold st_check_isStmt_64_0_1 fn_check_isStmt_64_0_1
    rw [e1]
    rfl
noncomputable def bd_check_isStmt_64_0_0 (b0 : Int) (b0_1 : ByteArray) (b0_2 : Int) (b0_3 : Int) (b0_4 : Int) (b0_5 : ByteArray) (b0_6 : (List (RT.C 0))) (b0_7 : Int) (b0_8 : Int) (b0_9 : Int) (b0_10 : ByteArray) (b0_11 : (List (RT.C 0))) (b0_12 : Int) (b0_13 : Int) (b0_14 : (List (RT.C 0))) (b0_15 : (List (RT.C 1))) (b0_16 : (List (RT.C 2))) (b0_17 : (List (RT.C 2))) (s0 : (List (RT.C 2))) (i : Nat)  (d : (RT.C 2)) : Option (Unit ⊕ (X_check_isStmt_64_0_0_0 ⊕ X_check_isStmt_64_0_0_1)) :=
  optC (Rec_check_isStmt.K (uT2 d, ())) (none) fun d26 ↦
   bif !d26 then
   some (Sum.inr (Sum.inr ((i : Int), b0, b0_1, b0_2, b0_3, b0_4, b0_5, b0_6, b0_7, b0_8, b0_9, b0_10, b0_11, b0_12, b0_13, b0_14, b0_15, b0_16, b0_17)))
 else some (Sum.inl ())
noncomputable def fn_check_isStmt_64_0_0 (b0 : Int) (b0_1 : ByteArray) (b0_2 : Int) (b0_3 : Int) (b0_4 : Int) (b0_5 : ByteArray) (b0_6 : (List (RT.C 0))) (b0_7 : Int) (b0_8 : Int) (b0_9 : Int) (b0_10 : ByteArray) (b0_11 : (List (RT.C 0))) (b0_12 : Int) (b0_13 : Int) (b0_14 : (List (RT.C 0))) (b0_15 : (List (RT.C 1))) (b0_16 : (List (RT.C 2))) (b0_17 : (List (RT.C 2))) (s0 : (List (RT.C 2)))  : Option (X_check_isStmt_64_0_0_0 ⊕ X_check_isStmt_64_0_0_1) :=
  some (Sum.inl (b0, b0_1, b0_2, b0_3, b0_4, b0_5, b0_6, b0_7, b0_8, b0_9, b0_10, b0_11, b0_12, b0_13, b0_14, b0_15, b0_16, b0_17))
noncomputable abbrev rx_check_isStmt_64_0_0 (b0 : Int) (b0_1 : ByteArray) (b0_2 : Int) (b0_3 : Int) (b0_4 : Int) (b0_5 : ByteArray) (b0_6 : (List (RT.C 0))) (b0_7 : Int) (b0_8 : Int) (b0_9 : Int) (b0_10 : ByteArray) (b0_11 : (List (RT.C 0))) (b0_12 : Int) (b0_13 : Int) (b0_14 : (List (RT.C 0))) (b0_15 : (List (RT.C 1))) (b0_16 : (List (RT.C 2))) (b0_17 : (List (RT.C 2))) (s0 : (List (RT.C 2))) (i : Nat) (s : Unit) : X_check_isStmt_64_0_0 := (s0, (s0.length : Int), (i : Int), b0, b0_1, b0_2, b0_3, b0_4, b0_5, b0_6, b0_7, b0_8, b0_9, b0_10, b0_11, b0_12, b0_13, b0_14, b0_15, b0_16, b0_17)
noncomputable def rv_check_isStmt_64_0_0 (b0 : Int) (b0_1 : ByteArray) (b0_2 : Int) (b0_3 : Int) (b0_4 : Int) (b0_5 : ByteArray) (b0_6 : (List (RT.C 0))) (b0_7 : Int) (b0_8 : Int) (b0_9 : Int) (b0_10 : ByteArray) (b0_11 : (List (RT.C 0))) (b0_12 : Int) (b0_13 : Int) (b0_14 : (List (RT.C 0))) (b0_15 : (List (RT.C 1))) (b0_16 : (List (RT.C 2))) (b0_17 : (List (RT.C 2))) (s0 : (List (RT.C 2))) (s : Unit) : Option (X_check_isStmt_64_0_0_0 ⊕ X_check_isStmt_64_0_0_1) := rangeO (fun i s d => bd_check_isStmt_64_0_0 b0 b0_1 b0_2 b0_3 b0_4 b0_5 b0_6 b0_7 b0_8 b0_9 b0_10 b0_11 b0_12 b0_13 b0_14 b0_15 b0_16 b0_17 s0 i  d) (fun s => fn_check_isStmt_64_0_0 b0 b0_1 b0_2 b0_3 b0_4 b0_5 b0_6 b0_7 b0_8 b0_9 b0_10 b0_11 b0_12 b0_13 b0_14 b0_15 b0_16 b0_17 s0 ) 0 s0 s
theorem rg_check_isStmt_64_0_0 (b0 : Int) (b0_1 : ByteArray) (b0_2 : Int) (b0_3 : Int) (b0_4 : Int) (b0_5 : ByteArray) (b0_6 : (List (RT.C 0))) (b0_7 : Int) (b0_8 : Int) (b0_9 : Int) (b0_10 : ByteArray) (b0_11 : (List (RT.C 0))) (b0_12 : Int) (b0_13 : Int) (b0_14 : (List (RT.C 0))) (b0_15 : (List (RT.C 1))) (b0_16 : (List (RT.C 2))) (b0_17 : (List (RT.C 2))) (s0 : (List (RT.C 2))) (s : Unit) (hl : s0.length < 9223372036854775807) : L_check_isStmt_64_0_0 (s0, (s0.length : Int), 0, b0, b0_1, b0_2, b0_3, b0_4, b0_5, b0_6, b0_7, b0_8, b0_9, b0_10, b0_11, b0_12, b0_13, b0_14, b0_15, b0_16, b0_17) = rv_check_isStmt_64_0_0 b0 b0_1 b0_2 b0_3 b0_4 b0_5 b0_6 b0_7 b0_8 b0_9 b0_10 b0_11 b0_12 b0_13 b0_14 b0_15 b0_16 b0_17 s0 s := by
  unfold L_check_isStmt_64_0_0 rv_check_isStmt_64_0_0
  refine iterO_range0 s0 (rx_check_isStmt_64_0_0 b0 b0_1 b0_2 b0_3 b0_4 b0_5 b0_6 b0_7 b0_8 b0_9 b0_10 b0_11 b0_12 b0_13 b0_14 b0_15 b0_16 b0_17 s0) _ _ ?_ ?_ s (by unfold FUEL; omega)
  · intro i s d hi hd
    have e1 : decide ((i : Int) < (s0.length : Int)) = true := decide_eq_true (by omega)
    have e2 : decide (0 ≤ (i : Int)) = true := decide_eq_true (by omega)
    have e3 : Int.toNat (i : Int) = i := Int.toNat_natCast i
    have e4 := wrap_next hi (Nat.le_of_lt hl)
    show st_check_isStmt_64_0_0 (s0) ((s0.length : Int)) ((i : Int)) (b0) (b0_1) (b0_2) (b0_3) (b0_4) (b0_5) (b0_6) (b0_7) (b0_8) (b0_9) (b0_10) (b0_11) (b0_12) (b0_13) (b0_14) (b0_15) (b0_16) (b0_17) = upd _ (bd_check_isStmt_64_0_0 b0 b0_1 b0_2 b0_3 b0_4 b0_5 b0_6 b0_7 b0_8 b0_9 b0_10 b0_11 b0_12 b0_13 b0_14 b0_15 b0_16 b0_17 s0 i  d)
    unfold st_check_isStmt_64_0_0 bd_check_isStmt_64_0_0
    simp only [e1, e2, e3, e4, hd, cond_true, cond_false, optC_some, upd_cond, upd_optC, upd_elim, upd_inl, upd_inr, upd_none]
  · intro s
    have e1 : decide ((s0.length : Int) < (s0.length : Int)) = false := decide_eq_false (by omega)
    show st_check_isStmt_64_0_0 (s0) ((s0.length : Int)) ((s0.length : Int)) (b0) (b0_1) (b0_2) (b0_3) (b0_4) (b0_5) (b0_6) (b0_7) (b0_8) (b0_9) (b0_10) (b0_11) (b0_12) (b0_13) (b0_14) (b0_15) (b0_16) (b0_17) = _
    unfold st_check_isStmt_64_0_0 fn_check_isStmt_64_0_0
    rw [e1]
    rfl
end Go.Proofs.YtmjbedjnojcmfaaDoor.Ex

namespace Go.Proofs.YtmjbedjnojcmfaaDoor.Ex
open Go.Proofs Go.Proofs.YtmjbedjnojcmfaaDoor
set_option maxRecDepth 100000
set_option maxHeartbeats 2000000
set_option linter.unusedVariables false
set_option linter.unusedSimpArgs false
def ash_ref7_stmts : List Sh := [.dat (.sl (.mu 2))]
def kp_ref7_stmts_45_0 : Nat → List Nat := fun c => bif c.beq 0 then [0, 3] else [2]
class Rec_ref7_stmts where
  K : ((List (RT.C 2)) × Unit) → Option Bool
  s : SoundA Tryd.prog 45 (conP true ash_ref7_stmts (.dat .bool) K)
section
variable [Rec_ref7_stmts]
noncomputable def sp_ref7_stmts : List Con := [⟨43, con_ref7_name, snd_ref7_name⟩, ⟨72, con_ref7_expr, snd_ref7_expr⟩, ⟨73, con_ref7_cond, snd_ref7_cond⟩, ⟨45, (conP true ash_ref7_stmts (.dat .bool) Rec_ref7_stmts.K), Rec_ref7_stmts.s⟩]
def s_ref7_stmts_45_0_0 : StS := ⟨[(0, .sl (.mu 2)), (3, .int .i64)], [], 0⟩
def x_ref7_stmts_45_0_0_0 : StS := ⟨[(2, .undef)], [], 0⟩
def x_ref7_stmts_45_0_0_1 : StS := ⟨[(2, .bool)], [], 0⟩
abbrev X_ref7_stmts_45_0_0 := ((List (RT.C 2)) × Int)
def fl_ref7_stmts_45_0_0 (d : StD s_ref7_stmts_45_0_0) : X_ref7_stmts_45_0_0 := (d.1.1, d.1.2.1)
def un_ref7_stmts_45_0_0 (x : X_ref7_stmts_45_0_0) : StD s_ref7_stmts_45_0_0 := ((x.1, x.2, ()), ())
abbrev X_ref7_stmts_45_0_0_0 := Unit
def fl_ref7_stmts_45_0_0_0 (d : StD x_ref7_stmts_45_0_0_0) : X_ref7_stmts_45_0_0_0 := ()
def un_ref7_stmts_45_0_0_0 (x : X_ref7_stmts_45_0_0_0) : StD x_ref7_stmts_45_0_0_0 := (((), ()), ())
abbrev X_ref7_stmts_45_0_0_1 := Bool
def fl_ref7_stmts_45_0_0_1 (d : StD x_ref7_stmts_45_0_0_1) : X_ref7_stmts_45_0_0_1 := (d.1.1)
def un_ref7_stmts_45_0_0_1 (x : X_ref7_stmts_45_0_0_1) : StD x_ref7_stmts_45_0_0_1 := ((x, ()), ())
noncomputable def st_ref7_stmts_45_0_0 (s0 : (List (RT.C 2))) (s3 : Int) : Option (((List (RT.C 2)) × Int) ⊕ (Unit ⊕ Bool)) :=
  bif decide (s3 < (↑s0.length : Int)) then
 bif decide (0 ≤ s3) then
 optC s0[s3.toNat]? none fun d5 ↦
 bif (uT2 d5).1 == 1 then
 optC (G_ref7_name ((uT2 d5).2.1, ())) none fun d6 ↦
 bif d6 then
 optC (G_ref7_expr ((uT2 d5).2.2.2.1, ())) none fun d7 ↦
 bif !d7 then some (Sum.inr (Sum.inr false)) else some (Sum.inl (s0, Go.IntKind.i64.wrap (s3 + 1)))
 else some (Sum.inr (Sum.inr false))
 else
 bif (uT2 d5).1 == 2 then
 optC (G_ref7_name ((uT2 d5).2.1, ())) none fun d6 ↦
 bif d6 then
 optC (G_ref7_expr ((uT2 d5).2.2.1, ())) none fun d7 ↦
 bif d7 then
 optC (G_ref7_expr ((uT2 d5).2.2.2.1, ())) none fun d8 ↦
 bif !d8 then some (Sum.inr (Sum.inr false)) else some (Sum.inl (s0, Go.IntKind.i64.wrap (s3 + 1)))
 else some (Sum.inr (Sum.inr false))
 else some (Sum.inr (Sum.inr false))
 else
 bif (uT2 d5).1 == 3 then
 optC (G_ref7_name ((uT2 d5).2.1, ())) none fun d6 ↦
 bif !d6 then some (Sum.inr (Sum.inr false)) else some (Sum.inl (s0, Go.IntKind.i64.wrap (s3 + 1)))
 else
 bif (uT2 d5).1 == 4 then
 optC (G_ref7_name ((uT2 d5).2.1, ())) none fun d6 ↦
 bif !d6 then some (Sum.inr (Sum.inr false)) else some (Sum.inl (s0, Go.IntKind.i64.wrap (s3 + 1)))
 else
 bif (uT2 d5).1 == 5 then
 optC (G_ref7_cond ((uT2 d5).2.2.2.2.1, ())) none fun d6 ↦
 bif d6 then
 optC (Rec_ref7_stmts.K ((uT2 d5).2.2.2.2.2.1, ())) none fun d7 ↦
 bif d7 then
 optC (Rec_ref7_stmts.K ((uT2 d5).2.2.2.2.2.2, ())) none fun d8 ↦
 bif !d8 then some (Sum.inr (Sum.inr false)) else some (Sum.inl (s0, Go.IntKind.i64.wrap (s3 + 1)))
 else some (Sum.inr (Sum.inr false))
 else some (Sum.inr (Sum.inr false))
 else
 bif (uT2 d5).1 == 6 then
 optC (G_ref7_cond ((uT2 d5).2.2.2.2.1, ())) none fun d6 ↦
 bif d6 then
 optC (Rec_ref7_stmts.K ((uT2 d5).2.2.2.2.2.1, ())) none fun d7 ↦
 bif !d7 then some (Sum.inr (Sum.inr false)) else some (Sum.inl (s0, Go.IntKind.i64.wrap (s3 + 1)))
 else some (Sum.inr (Sum.inr false))
 else
 bif (uT2 d5).1 == 7 then
 optC (G_ref7_cond ((uT2 d5).2.2.2.2.1, ())) none fun d6 ↦
 bif !d6 then some (Sum.inr (Sum.inr false)) else some (Sum.inl (s0, Go.IntKind.i64.wrap (s3 + 1)))
 else bif (uT2 d5).1 == 8 then some (Sum.inl (s0, Go.IntKind.i64.wrap (s3 + 1))) else some (Sum.inr (Sum.inr false))
 else none
 else some (Sum.inr (Sum.inl PUnit.unit))
noncomputable def sx_ref7_stmts_45_0_0 (x : X_ref7_stmts_45_0_0) : Option (X_ref7_stmts_45_0_0 ⊕ (X_ref7_stmts_45_0_0_0 ⊕ X_ref7_stmts_45_0_0_1)) := st_ref7_stmts_45_0_0 x.1 x.2
theorem rn_ref7_stmts_45_0_0 (x : X_ref7_stmts_45_0_0) : rdX (cxU sp_ref7_stmts [] 40 (1048576 ^ 9)) keeps 8 ⟨45, 83, keeps 45, 0⟩ 0 (bodyX 45 0) 0 kp_ref7_stmts_45_0 (sT s_ref7_stmts_45_0_0 (un_ref7_stmts_45_0_0 x)) (sH s_ref7_stmts_45_0_0 (un_ref7_stmts_45_0_0 x)) (rdO (fun T h => (rdS s_ref7_stmts_45_0_0 T h).map fl_ref7_stmts_45_0_0) (getOr (getE 2 x_ref7_stmts_45_0_0_0 fl_ref7_stmts_45_0_0_0) (getE 1 x_ref7_stmts_45_0_0_1 fl_ref7_stmts_45_0_0_1))) = sx_ref7_stmts_45_0_0 x := by kernel_rfl
noncomputable def L_ref7_stmts_45_0_0 (x : X_ref7_stmts_45_0_0) : Option (X_ref7_stmts_45_0_0_0 ⊕ X_ref7_stmts_45_0_0_1) := iterO (fun x => st_ref7_stmts_45_0_0 x.1 x.2) FUEL x
noncomputable def q_ref7_stmts_45_0 : Nat → Tm → Prog (Nat × Tm) := (varP 0 (fun T h => (rdS s_ref7_stmts_45_0_0 T h).map fl_ref7_stmts_45_0_0) L_ref7_stmts_45_0_0 (fun y => .alt y (altE 2 x_ref7_stmts_45_0_0_0 un_ref7_stmts_45_0_0_0) (altE 1 x_ref7_stmts_45_0_0_1 un_ref7_stmts_45_0_0_1)) (fun _ _ => .fail))
noncomputable def lc_ref7_stmts_45_0 : Lpc := ⟨45, 0, 83, (fun base T => .norm base (kp_ref7_stmts_45_0 0) T (q_ref7_stmts_45_0 base)), by kernel_rfl, by kernel_rfl, (loopU sp_ref7_stmts [] 40 (1048576 ^ 9) 8 (keep := kp_ref7_stmts_45_0) (q := q_ref7_stmts_45_0) (by kernel_rfl) (varX_ok (s := s_ref7_stmts_45_0_0) (un := un_ref7_stmts_45_0_0) (by rfl) (fun _ => rfl) (getOr_ok (getE_ok (s := x_ref7_stmts_45_0_0_0) (un := un_ref7_stmts_45_0_0_0) (by rfl) (fun _ => rfl)) (getE_ok (s := x_ref7_stmts_45_0_0_1) (un := un_ref7_stmts_45_0_0_1) (by rfl) (fun _ => rfl))) (step := sx_ref7_stmts_45_0_0) rn_ref7_stmts_45_0_0 (fun _ _ e => ⟨_, e⟩) (altOr_ok (altE_ok 2 x_ref7_stmts_45_0_0_0 un_ref7_stmts_45_0_0_0) (altE_ok 1 x_ref7_stmts_45_0_0_1 un_ref7_stmts_45_0_0_1)) (VarOk.fail _ _)))⟩
noncomputable def g_ref7_stmts (a0 : (List (RT.C 2))) : Option Bool :=
  optC (L_ref7_stmts_45_0_0 (a0, 0)) none fun d4 ↦ Sum.elim (fun e5 ↦ some true) (fun e5 ↦ some e5) d4
theorem raw_ref7_stmts (a0 : (List (RT.C 2))) : evGX1 (cxU sp_ref7_stmts [lc_ref7_stmts_45_0] 40 (1048576 ^ 9)) keeps 8 45 ash_ref7_stmts (.dat .bool) ((a0, ()) : ((List (RT.C 2)) × Unit)) = g_ref7_stmts a0 := by kernel_rfl
noncomputable def GI_ref7_stmts (x : ((List (RT.C 2)) × Unit)) : Option Bool := g_ref7_stmts x.1
noncomputable def conI_ref7_stmts : List AV → Prog AV := conP true ash_ref7_stmts (.dat .bool) GI_ref7_stmts
theorem sndI_ref7_stmts : SoundA Tryd.prog 45 conI_ref7_stmts := conP_sound (evF1_sound (tabOk_of tab_ok) (cmpsOk_of tab_ok cmps_ok) mixed (inU sp_ref7_stmts [lc_ref7_stmts_45_0] 40 (1048576 ^ 9)) (hspL sp_ref7_stmts) keeps 8 45) true (by rfl) (by rfl) (fun x r e => (evGX1_eq _ _ _ _ _ _ _).trans ((raw_ref7_stmts x.1).trans e)) (.inl rfl)
end
noncomputable def it_ref7_stmts : Nat → {K : ((List (RT.C 2)) × Unit) → Option Bool // SoundA Tryd.prog 45 (conP true ash_ref7_stmts (.dat .bool) K)}
  | 0 => ⟨fun _ => none, conP_none⟩
  | k + 1 => letI : Rec_ref7_stmts := ⟨(it_ref7_stmts k).1, (it_ref7_stmts k).2⟩; ⟨GI_ref7_stmts, sndI_ref7_stmts⟩
noncomputable def G_ref7_stmts (x : ((List (RT.C 2)) × Unit)) : Option Bool := (it_ref7_stmts (@SizeOf.sizeOf (((List T2) × Unit)) _ x + 1)).1 x
noncomputable def con_ref7_stmts : List AV → Prog AV := conP true ash_ref7_stmts (.dat .bool) G_ref7_stmts
theorem snd_ref7_stmts : SoundA Tryd.prog 45 con_ref7_stmts := conP_pick (sh := ash_ref7_stmts) (rs := .dat .bool) (n := fun x : ((List (RT.C 2)) × Unit) => @SizeOf.sizeOf ((List T2) × Unit) _ x + 1) (F := fun k => (it_ref7_stmts k).1) (fun k => (it_ref7_stmts k).2)
end Go.Proofs.YtmjbedjnojcmfaaDoor.Ex

namespace Go.Proofs.YtmjbedjnojcmfaaDoor.Ex
set_option maxRecDepth 100000
set_option maxHeartbeats 2000000
set_option linter.unusedVariables false
set_option linter.unusedSimpArgs false
set_option linter.unusedSectionVars false
variable [Rec_ref7_stmts]
noncomputable def bd_ref7_stmts_45_0_0  (s0 : (List (RT.C 2))) (i : Nat)  (d : (RT.C 2)) : Option (Unit ⊕ (X_ref7_stmts_45_0_0_0 ⊕ X_ref7_stmts_45_0_0_1)) :=
  bif (uT2 d).1 == 1 then
   optC (G_ref7_name ((uT2 d).2.1, ())) (none) fun d6 ↦
   bif d6 then
   optC (G_ref7_expr ((uT2 d).2.2.2.1, ())) (none) fun d7 ↦
   bif !d7 then
   some (Sum.inr (Sum.inr false))
 else some (Sum.inl ())
 else some (Sum.inr (Sum.inr false))
 else bif (uT2 d).1 == 2 then
   optC (G_ref7_name ((uT2 d).2.1, ())) (none) fun d6 ↦
   bif d6 then
   optC (G_ref7_expr ((uT2 d).2.2.1, ())) (none) fun d7 ↦
   bif d7 then
   optC (G_ref7_expr ((uT2 d).2.2.2.1, ())) (none) fun d8 ↦
   bif !d8 then
   some (Sum.inr (Sum.inr false))
 else some (Sum.inl ())
 else some (Sum.inr (Sum.inr false))
 else some (Sum.inr (Sum.inr false))
 else bif (uT2 d).1 == 3 then
   optC (G_ref7_name ((uT2 d).2.1, ())) (none) fun d6 ↦
   bif !d6 then
   some (Sum.inr (Sum.inr false))
 else some (Sum.inl ())
 else bif (uT2 d).1 == 4 then
   optC (G_ref7_name ((uT2 d).2.1, ())) (none) fun d6 ↦
   bif !d6 then
   some (Sum.inr (Sum.inr false))
 else some (Sum.inl ())
 else bif (uT2 d).1 == 5 then
   optC (G_ref7_cond ((uT2 d).2.2.2.2.1, ())) (none) fun d6 ↦
   bif d6 then
   optC (Rec_ref7_stmts.K ((uT2 d).2.2.2.2.2.1, ())) (none) fun d7 ↦
   bif d7 then
   optC (Rec_ref7_stmts.K ((uT2 d).2.2.2.2.2.2, ())) (none) fun d8 ↦
   bif !d8 then
   some (Sum.inr (Sum.inr false))
 else some (Sum.inl ())
 else some (Sum.inr (Sum.inr false))
 else some (Sum.inr (Sum.inr false))
 else bif (uT2 d).1 == 6 then
   optC (G_ref7_cond ((uT2 d).2.2.2.2.1, ())) (none) fun d6 ↦
   bif d6 then
   optC (Rec_ref7_stmts.K ((uT2 d).2.2.2.2.2.1, ())) (none) fun d7 ↦
   bif !d7 then
   some (Sum.inr (Sum.inr false))
 else some (Sum.inl ())
 else some (Sum.inr (Sum.inr false))
 else bif (uT2 d).1 == 7 then
   optC (G_ref7_cond ((uT2 d).2.2.2.2.1, ())) (none) fun d6 ↦
   bif !d6 then
   some (Sum.inr (Sum.inr false))
 else some (Sum.inl ())
 else bif (uT2 d).1 == 8 then
   some (Sum.inl ())
 else some (Sum.inr (Sum.inr false))
noncomputable def fn_ref7_stmts_45_0_0  (s0 : (List (RT.C 2)))  : Option (X_ref7_stmts_45_0_0_0 ⊕ X_ref7_stmts_45_0_0_1) :=
  some (Sum.inl PUnit.unit)
noncomputable abbrev rx_ref7_stmts_45_0_0  (s0 : (List (RT.C 2))) (i : Nat) (s : Unit) : X_ref7_stmts_45_0_0 := (s0, (i : Int))
noncomputable def rv_ref7_stmts_45_0_0  (s0 : (List (RT.C 2))) (s : Unit) : Option (X_ref7_stmts_45_0_0_0 ⊕ X_ref7_stmts_45_0_0_1) := rangeO (fun i s d => bd_ref7_stmts_45_0_0  s0 i  d) (fun s => fn_ref7_stmts_45_0_0  s0 ) 0 s0 s
theorem rg_ref7_stmts_45_0_0  (s0 : (List (RT.C 2))) (s : Unit) (hl : s0.length < 9223372036854775807) : L_ref7_stmts_45_0_0 (s0, 0) = rv_ref7_stmts_45_0_0  s0 s := by
  unfold L_ref7_stmts_45_0_0 rv_ref7_stmts_45_0_0
  refine iterO_range0 s0 (rx_ref7_stmts_45_0_0  s0) _ _ ?_ ?_ s (by unfold FUEL; omega)
  · intro i s d hi hd
    have e1 : decide ((i : Int) < (s0.length : Int)) = true := decide_eq_true (by omega)
    have e2 : decide (0 ≤ (i : Int)) = true := decide_eq_true (by omega)
    have e3 : Int.toNat (i : Int) = i := Int.toNat_natCast i
    have e4 := wrap_next hi (Nat.le_of_lt hl)
    show st_ref7_stmts_45_0_0 (s0) ((i : Int)) = upd _ (bd_ref7_stmts_45_0_0  s0 i  d)
    unfold st_ref7_stmts_45_0_0 bd_ref7_stmts_45_0_0
    simp only [e1, e2, e3, e4, hd, cond_true, cond_false, optC_some, upd_cond, upd_optC, upd_elim, upd_inl, upd_inr, upd_none]
  · intro s
    have e1 : decide ((s0.length : Int) < (s0.length : Int)) = false := decide_eq_false (by omega)
    show st_ref7_stmts_45_0_0 (s0) ((s0.length : Int)) = _
    unfold st_ref7_stmts_45_0_0 fn_ref7_stmts_45_0_0
    rw [e1]
    rfl
end Go.Proofs.YtmjbedjnojcmfaaDoor.Ex

namespace Go.Proofs.YtmjbedjnojcmfaaDoor.Ex
set_option maxRecDepth 100000
set_option linter.unusedVariables false
set_option linter.unusedSimpArgs false
def smB : T2 → Bool
  | .mk (k, nm, i, e, c, body, els) => bif k == 1 then nameB nm && exB (.mk e) else bif k == 2 then nameB nm && (exB (.mk i) && exB (.mk e)) else bif k == 3 then nameB nm else bif k == 4 then nameB nm else bif k == 5 then cdB (.mk c) && ((body.attach.all fun x => smB x.1) && (els.attach.all fun x => smB x.1)) else bif k == 6 then cdB (.mk c) && (body.attach.all fun x => smB x.1) else bif k == 7 then cdB (.mk c) else k == 8
termination_by t => SizeOf.sizeOf t
decreasing_by
  all_goals
    have := List.sizeOf_lt_of_mem x.2
    simp only [T2.mk.sizeOf_spec, Prod.mk.sizeOf_spec]
    omega
theorem smB_eq (k : Int) (nm : ByteArray) (i e : Xp) (c : Cd) (body els : List T2) : smB (.mk (k, nm, i, e, c, body, els)) = (bif k == 1 then nameB nm && exB (.mk e) else bif k == 2 then nameB nm && (exB (.mk i) && exB (.mk e)) else bif k == 3 then nameB nm else bif k == 4 then nameB nm else bif k == 5 then cdB (.mk c) && (body.all smB && els.all smB) else bif k == 6 then cdB (.mk c) && body.all smB else bif k == 7 then cdB (.mk c) else k == 8) := by
  rw [smB, att_all body smB, att_all els smB]
inductive ok2 : T2 → Prop
  | mk {k : Int} {nm : ByteArray} {i e : Xp} {c : Cd} {body els : List T2} (hn : nm.data.toList.length ≤ 9223372036854775807) (hi : ok0 (.mk i)) (he : ok0 (.mk e)) (hc : ok1 (.mk c)) (hb : body.length < 9223372036854775807) (hl : els.length < 9223372036854775807) (h : ∀ d ∈ body, ok2 d) (h' : ∀ d ∈ els, ok2 d) : ok2 (.mk (k, nm, i, e, c, body, els))
section
variable [Rec_check_isStmt]
theorem chk_stmt (k : Int) (nm : ByteArray) (i e : Xp) (c : Cd) (body els : List T2) (hi : ok0 (.mk i)) (he : ok0 (.mk e)) (hc : ok1 (.mk c)) (hb : body.length < 9223372036854775807) (hl : els.length < 9223372036854775807) (h : ∀ d ∈ body, Rec_check_isStmt.K (uT2 d, ()) = some (smB d)) (h' : ∀ d ∈ els, Rec_check_isStmt.K (uT2 d, ()) = some (smB d)) : g_check_isStmt (k, nm, i, e, c, body, els) = some (smB (.mk (k, nm, i, e, c, body, els))) := by
  have xi := n_isExpr i hi
  have xe := n_isExpr e he
  have xc := n_isCond c hc
  rw [smB_eq]
  generalize exB (.mk i) = bi at *
  generalize exB (.mk e) = be at *
  generalize cdB (.mk c) = bc at *
  obtain ⟨i1, i2, i3, i4, i5⟩ := i
  obtain ⟨e1, e2, e3, e4, e5⟩ := e
  obtain ⟨c1, c2, c3, c4⟩ := c
  obtain ⟨j, q⟩ := rangeO_bad (f := fun i _ d => bd_check_isStmt_64_0_0 k nm i1 i2 i3 i4 i5 e1 e2 e3 e4 e5 c1 c2 c3 c4 body els body i d) (fin := fun _ => fn_check_isStmt_64_0_0 k nm i1 i2 i3 i4 i5 e1 e2 e3 e4 e5 c1 c2 c3 c4 body els body) (p := smB) (o := fun i => .inr ((i : Int), k, nm, i1, i2, i3, i4, i5, e1, e2, e3, e4, e5, c1, c2, c3, c4, body, els)) body 0 fun j d hd => by
    unfold bd_check_isStmt_64_0_0
    simp only [h d (List.mem_of_getElem? hd), optC_some]
    cases smB d <;> rfl
  have z0 : L_check_isStmt_64_0_0 (body, (body.length : Int), 0, k, nm, i1, i2, i3, i4, i5, e1, e2, e3, e4, e5, c1, c2, c3, c4, body, els) = bif body.all smB then some (.inl (k, nm, i1, i2, i3, i4, i5, e1, e2, e3, e4, e5, c1, c2, c3, c4, body, els)) else some (.inr ((j : Int), k, nm, i1, i2, i3, i4, i5, e1, e2, e3, e4, e5, c1, c2, c3, c4, body, els)) := (rg_check_isStmt_64_0_0 k nm i1 i2 i3 i4 i5 e1 e2 e3 e4 e5 c1 c2 c3 c4 body els body () hb).trans q
  obtain ⟨j', q'⟩ := rangeO_bad (f := fun i _ d => bd_check_isStmt_64_0_1 k nm i1 i2 i3 i4 i5 e1 e2 e3 e4 e5 c1 c2 c3 c4 body els els i d) (fin := fun _ => fn_check_isStmt_64_0_1 k nm i1 i2 i3 i4 i5 e1 e2 e3 e4 e5 c1 c2 c3 c4 body els els) (p := smB) (o := fun i => .inr ((i : Int), k, nm, i1, i2, i3, i4, i5, e1, e2, e3, e4, e5, c1, c2, c3, c4, body, els)) els 0 fun j d hd => by
    unfold bd_check_isStmt_64_0_1
    simp only [h' d (List.mem_of_getElem? hd), optC_some]
    cases smB d <;> rfl
  have z1 : L_check_isStmt_64_0_1 (els, (els.length : Int), 0, k, nm, i1, i2, i3, i4, i5, e1, e2, e3, e4, e5, c1, c2, c3, c4, body, els) = bif els.all smB then some (.inl (k, nm, i1, i2, i3, i4, i5, e1, e2, e3, e4, e5, c1, c2, c3, c4, body, els)) else some (.inr ((j' : Int), k, nm, i1, i2, i3, i4, i5, e1, e2, e3, e4, e5, c1, c2, c3, c4, body, els)) := (rg_check_isStmt_64_0_1 k nm i1 i2 i3 i4 i5 e1 e2 e3 e4 e5 c1 c2 c3 c4 body els els () hl).trans q'
  have dj : decide ((j : Int) ≥ 0) = true := decide_eq_true (by omega)
  have dj' : decide ((j' : Int) ≥ 0) = true := decide_eq_true (by omega)
  have dm : decide ((-1 : Int) ≥ 0) = false := by decide
  unfold g_check_isStmt
  simp only [G_check_isName, n_isName, optC_some, xi, xe, xc, z0]
  cases body.all smB
  · simp only [cond_false, optC_some, Sum.elim_inr, dj, Bool.not_true, cA, Bool.false_and, Bool.and_false]
    cases k == 1 <;> cases k == 2 <;> cases k == 3 <;> cases k == 4 <;> cases k == 5 <;> cases k == 6 <;> cases k == 7 <;> rfl
  · simp only [cond_true, optC_some, Sum.elim_inl, z1]
    cases els.all smB
    · simp only [cond_false, optC_some, Sum.elim_inr, dj', dm, Bool.not_true, Bool.not_false, cA, Bool.false_and, Bool.and_false, Bool.true_and, Bool.and_true]
      cases k == 1 <;> cases k == 2 <;> cases k == 3 <;> cases k == 4 <;> cases k == 5 <;> cases k == 6 <;> cases k == 7 <;> rfl
    · simp only [cond_true, optC_some, Sum.elim_inl, dm, Bool.not_false, cA, Bool.true_and, Bool.and_true]
      cases k == 1 <;> cases k == 2 <;> cases k == 3 <;> cases k == 4 <;> cases k == 5 <;> cases k == 6 <;> cases k == 7 <;> rfl
end
theorem it_isStmt (t : T2) (ht : ok2 t) : ∀ k, SizeOf.sizeOf t ≤ k → (it_check_isStmt k).1 (uT2 t, ()) = some (smB t) := by
  induction ht with
  | @mk c nm i e cd body els hn hi he hc hb hl h h' ih ih' =>
    intro k hk
    rw [T2.mk.sizeOf_spec] at hk
    obtain ⟨k, rfl⟩ : ∃ m, k = m + 1 := ⟨k - 1, by omega⟩
    letI : Rec_check_isStmt := ⟨(it_check_isStmt k).1, (it_check_isStmt k).2⟩
    simp only [Prod.mk.sizeOf_spec] at hk
    refine chk_stmt c nm i e cd body els hi he hc hb hl (fun d hd => ih d hd k ?_) fun d hd => ih' d hd k ?_
    · have := List.sizeOf_lt_of_mem hd; omega
    · have := List.sizeOf_lt_of_mem hd; omega
theorem n_isStmt (d : T2) (ht : ok2 d) : G_check_isStmt (uT2 d, ()) = some (smB d) := by
  cases d with
  | mk e => exact it_isStmt (.mk e) ht _ (by rw [T2.mk.sizeOf_spec]; show 1 + SizeOf.sizeOf e ≤ (1 + SizeOf.sizeOf e + SizeOf.sizeOf ()) + 1; omega)
section
variable [Rec_ref7_stmts]
theorem ref_stmts (l : List T2) (hl : l.length < 9223372036854775807) (ok : ∀ d ∈ l, ok2 d) (h : ∀ d ∈ l, ∀ k nm i e c body els, d = .mk (k, nm, i, e, c, body, els) → Rec_ref7_stmts.K (body, ()) = some (body.all smB) ∧ Rec_ref7_stmts.K (els, ()) = some (els.all smB)) : g_ref7_stmts l = some (l.all smB) := by
  obtain ⟨j, q⟩ := rangeO_bad (f := fun i _ d => bd_ref7_stmts_45_0_0 l i d) (fin := fun _ => fn_ref7_stmts_45_0_0 l) (p := smB) (o := fun i => .inr false) l 0 fun j d hd => by
    have hm := List.mem_of_getElem? hd
    have ho := ok d hm
    have hh := h d hm
    cases ho with
    | @mk k nm i e c body els hn hi he hc hb hl' hx hx' =>
      obtain ⟨k1, k2⟩ := hh k nm i e c body els rfl
      unfold bd_ref7_stmts_45_0_0
      rw [show uT2 (T2.mk (k, nm, i, e, c, body, els)) = (k, nm, i, e, c, body, els) from rfl]
      simp only [G_ref7_name, n_ref7_name nm hn, n_ref_expr i hi, n_ref_expr e he, n_ref_cond c hc, k1, k2, optC_some, smB_eq]
      cases k == 1
      · cases k == 2
        · cases k == 3
          · cases k == 4
            · cases k == 5
              · cases k == 6
                · cases k == 7
                  · cases k == 8 <;> rfl
                  · cases cdB (.mk c) <;> rfl
                · cases cdB (.mk c) <;> cases body.all smB <;> rfl
              · cases cdB (.mk c) <;> cases body.all smB <;> cases els.all smB <;> rfl
            · cases nameB nm <;> rfl
          · cases nameB nm <;> rfl
        · cases nameB nm <;> cases exB (.mk i) <;> cases exB (.mk e) <;> rfl
      · cases nameB nm <;> cases exB (.mk e) <;> rfl
  have z : L_ref7_stmts_45_0_0 (l, 0) = _ := (rg_ref7_stmts_45_0_0 l () hl).trans q
  unfold g_ref7_stmts
  rw [z]
  cases l.all smB <;> rfl
end
theorem it_ref_stmts : ∀ (k : Nat) (l : List T2), l.length < 9223372036854775807 → (∀ d ∈ l, ok2 d) → SizeOf.sizeOf l ≤ k → (it_ref7_stmts k).1 (l, ()) = some (l.all smB)
  | 0, l, _, _, h => by cases l <;> simp at h
  | k + 1, l, hl, ok, h => by
    letI : Rec_ref7_stmts := ⟨(it_ref7_stmts k).1, (it_ref7_stmts k).2⟩
    refine ref_stmts l hl ok fun d hd c nm i e cd body els hde => ?_
    subst hde
    have := List.sizeOf_lt_of_mem hd
    simp only [T2.mk.sizeOf_spec, Prod.mk.sizeOf_spec] at this
    cases ok _ hd with
    | mk hn hi he hc hb hl' hx hx' => exact ⟨it_ref_stmts k body hb hx (by omega), it_ref_stmts k els hl' hx' (by omega)⟩
theorem n_ref_stmts (l : List T2) (hl : l.length < 9223372036854775807) (ok : ∀ d ∈ l, ok2 d) : G_ref7_stmts (l, ()) = some (l.all smB) :=
  it_ref_stmts _ l hl ok (by show SizeOf.sizeOf l ≤ (1 + SizeOf.sizeOf l + SizeOf.sizeOf ()) + 1; omega)
end Go.Proofs.YtmjbedjnojcmfaaDoor.Ex

namespace Go.Proofs.YtmjbedjnojcmfaaDoor.Ex
open Go.Proofs Go.Proofs.YtmjbedjnojcmfaaDoor
set_option maxRecDepth 100000
set_option maxHeartbeats 2000000
set_option linter.unusedVariables false
set_option linter.unusedSimpArgs false
def ash_check_scope_isVar : List Sh := [.dat (.st (.pair tPg tTh)), .dat .str]
noncomputable def sp_check_scope_isVar : List Con := [⟨65, con_check_Local, snd_check_Local⟩, ⟨66, con_check_Global, snd_check_Global⟩]
noncomputable def g_check_scope_isVar (a0 : (Pg × Th)) (a1 : ByteArray) : Option Bool :=
  optC (G_check_Local (a0.2, a1, ())) none fun d3 ↦
 bif decide (d3 ≥ 0) then some true else optC (G_check_Global (a0.1, a1, ())) none fun d4 ↦ some (decide (d4 ≥ 0))
theorem raw_check_scope_isVar (a0 : (Pg × Th)) (a1 : ByteArray) : evGX (cxU sp_check_scope_isVar [] 40 1048576) keeps 8 38 ash_check_scope_isVar (.dat .bool) ((a0, a1, ()) : ((Pg × Th) × (ByteArray × Unit))) = g_check_scope_isVar a0 a1 := by kernel_rfl
noncomputable def G_check_scope_isVar (x : ((Pg × Th) × (ByteArray × Unit))) : Option Bool := g_check_scope_isVar x.1 x.2.1
noncomputable def con_check_scope_isVar : List AV → Prog AV := conP true ash_check_scope_isVar (.dat .bool) G_check_scope_isVar
theorem snd_check_scope_isVar : SoundA Tryd.prog 38 con_check_scope_isVar := conP_sound (calU sp_check_scope_isVar [] 40 1048576 8 38) true (by rfl) (by rfl) (fun x r e => (evGX_eq _ _ _ _ _ _ _).trans ((raw_check_scope_isVar x.1 x.2.1).trans e)) (.inl rfl)
end Go.Proofs.YtmjbedjnojcmfaaDoor.Ex

namespace Go.Proofs.YtmjbedjnojcmfaaDoor.Ex
open Go.Proofs Go.Proofs.YtmjbedjnojcmfaaDoor
set_option maxRecDepth 100000
set_option maxHeartbeats 2000000
set_option linter.unusedVariables false
set_option linter.unusedSimpArgs false
def ash_check_scope_expr : List Sh := [.dat (.st (.pair tPg tTh)), .dat tX]
def kp_check_scope_expr_96_0 : Nat → List Nat := fun c => bif c.beq 0 then [0, 1, 7, 8] else [4]
class Rec_check_scope_expr where
  K : ((Pg × Th) × (Xp × Unit)) → Option Bool
  s : SoundA Tryd.prog 39 (conP true ash_check_scope_expr (.dat .bool) K)
section
variable [Rec_check_scope_expr]
noncomputable def sp_check_scope_expr : List Con := [⟨38, con_check_scope_isVar, snd_check_scope_isVar⟩, ⟨40, con_check_Array, snd_check_Array⟩, ⟨39, (conP true ash_check_scope_expr (.dat .bool) Rec_check_scope_expr.K), Rec_check_scope_expr.s⟩]
def s_check_scope_expr_96_0_0 : StS := ⟨[(0, .sl (.mu 0)), (1, .clo 87 [] [.ptr 2 0]), (7, .int .i64), (8, .int .i64)], [(2, .box [.clo 39 [.agg [.sl tGb, .sl tGb, .sl .str, .sl tTh, .str, .sl .str, .sl (.mu 2)]] []]), (1, .box [.int .i64, .int .i64, .int .i64, .str, .sl (.mu 0)]), (0, .box [.sl tGb, .sl tGb, .sl .str, .sl tTh, .str, .sl .str, .sl (.mu 2)])], 3⟩
def x_check_scope_expr_96_0_0_0 : StS := ⟨[(4, .undef)], [(2, .box [.clo 39 [.agg [.sl tGb, .sl tGb, .sl .str, .sl tTh, .str, .sl .str, .sl (.mu 2)]] []]), (1, .box [.int .i64, .int .i64, .int .i64, .str, .sl (.mu 0)]), (0, .box [.sl tGb, .sl tGb, .sl .str, .sl tTh, .str, .sl .str, .sl (.mu 2)])], 3⟩
def x_check_scope_expr_96_0_0_1 : StS := ⟨[(4, .int .i64)], [(2, .box [.clo 39 [.agg [.sl tGb, .sl tGb, .sl .str, .sl tTh, .str, .sl .str, .sl (.mu 2)]] []]), (1, .box [.int .i64, .int .i64, .int .i64, .str, .sl (.mu 0)]), (0, .box [.sl tGb, .sl tGb, .sl .str, .sl tTh, .str, .sl .str, .sl (.mu 2)])], 3⟩
abbrev X_check_scope_expr_96_0_0 := ((List (RT.C 0)) × Int × Int × (List Gb) × (List Gb) × (List ByteArray) × (List Th) × ByteArray × (List ByteArray) × (List (RT.C 2)) × Int × Int × Int × ByteArray × (List (RT.C 0)) × (List Gb) × (List Gb) × (List ByteArray) × (List Th) × ByteArray × (List ByteArray) × (List (RT.C 2)))
def fl_check_scope_expr_96_0_0 (d : StD s_check_scope_expr_96_0_0) : X_check_scope_expr_96_0_0 := (d.1.1, d.1.2.2.1, d.1.2.2.2.1, d.2.1.1.1.1.1, d.2.1.1.1.1.2.1, d.2.1.1.1.1.2.2.1, d.2.1.1.1.1.2.2.2.1, d.2.1.1.1.1.2.2.2.2.1, d.2.1.1.1.1.2.2.2.2.2.1, d.2.1.1.1.1.2.2.2.2.2.2.1, d.2.2.1.1, d.2.2.1.2.1, d.2.2.1.2.2.1, d.2.2.1.2.2.2.1, d.2.2.1.2.2.2.2.1, d.2.2.2.1.1, d.2.2.2.1.2.1, d.2.2.2.1.2.2.1, d.2.2.2.1.2.2.2.1, d.2.2.2.1.2.2.2.2.1, d.2.2.2.1.2.2.2.2.2.1, d.2.2.2.1.2.2.2.2.2.2.1)
def un_check_scope_expr_96_0_0 (x : X_check_scope_expr_96_0_0) : StD s_check_scope_expr_96_0_0 := ((x.1, ((), ((), ())), x.2.1, x.2.2.1, ()), (((((x.2.2.2.1, x.2.2.2.2.1, x.2.2.2.2.2.1, x.2.2.2.2.2.2.1, x.2.2.2.2.2.2.2.1, x.2.2.2.2.2.2.2.2.1, x.2.2.2.2.2.2.2.2.2.1, ()), ()), ()), ()), (x.2.2.2.2.2.2.2.2.2.2.1, x.2.2.2.2.2.2.2.2.2.2.2.1, x.2.2.2.2.2.2.2.2.2.2.2.2.1, x.2.2.2.2.2.2.2.2.2.2.2.2.2.1, x.2.2.2.2.2.2.2.2.2.2.2.2.2.2.1, ()), (x.2.2.2.2.2.2.2.2.2.2.2.2.2.2.2.1, x.2.2.2.2.2.2.2.2.2.2.2.2.2.2.2.2.1, x.2.2.2.2.2.2.2.2.2.2.2.2.2.2.2.2.2.1, x.2.2.2.2.2.2.2.2.2.2.2.2.2.2.2.2.2.2.1, x.2.2.2.2.2.2.2.2.2.2.2.2.2.2.2.2.2.2.2.1, x.2.2.2.2.2.2.2.2.2.2.2.2.2.2.2.2.2.2.2.2.1, x.2.2.2.2.2.2.2.2.2.2.2.2.2.2.2.2.2.2.2.2.2, ()), ()))
abbrev X_check_scope_expr_96_0_0_0 := ((List Gb) × (List Gb) × (List ByteArray) × (List Th) × ByteArray × (List ByteArray) × (List (RT.C 2)) × Int × Int × Int × ByteArray × (List (RT.C 0)) × (List Gb) × (List Gb) × (List ByteArray) × (List Th) × ByteArray × (List ByteArray) × (List (RT.C 2)))
def fl_check_scope_expr_96_0_0_0 (d : StD x_check_scope_expr_96_0_0_0) : X_check_scope_expr_96_0_0_0 := (d.2.1.1.1.1.1, d.2.1.1.1.1.2.1, d.2.1.1.1.1.2.2.1, d.2.1.1.1.1.2.2.2.1, d.2.1.1.1.1.2.2.2.2.1, d.2.1.1.1.1.2.2.2.2.2.1, d.2.1.1.1.1.2.2.2.2.2.2.1, d.2.2.1.1, d.2.2.1.2.1, d.2.2.1.2.2.1, d.2.2.1.2.2.2.1, d.2.2.1.2.2.2.2.1, d.2.2.2.1.1, d.2.2.2.1.2.1, d.2.2.2.1.2.2.1, d.2.2.2.1.2.2.2.1, d.2.2.2.1.2.2.2.2.1, d.2.2.2.1.2.2.2.2.2.1, d.2.2.2.1.2.2.2.2.2.2.1)
def un_check_scope_expr_96_0_0_0 (x : X_check_scope_expr_96_0_0_0) : StD x_check_scope_expr_96_0_0_0 := (((), ()), (((((x.1, x.2.1, x.2.2.1, x.2.2.2.1, x.2.2.2.2.1, x.2.2.2.2.2.1, x.2.2.2.2.2.2.1, ()), ()), ()), ()), (x.2.2.2.2.2.2.2.1, x.2.2.2.2.2.2.2.2.1, x.2.2.2.2.2.2.2.2.2.1, x.2.2.2.2.2.2.2.2.2.2.1, x.2.2.2.2.2.2.2.2.2.2.2.1, ()), (x.2.2.2.2.2.2.2.2.2.2.2.2.1, x.2.2.2.2.2.2.2.2.2.2.2.2.2.1, x.2.2.2.2.2.2.2.2.2.2.2.2.2.2.1, x.2.2.2.2.2.2.2.2.2.2.2.2.2.2.2.1, x.2.2.2.2.2.2.2.2.2.2.2.2.2.2.2.2.1, x.2.2.2.2.2.2.2.2.2.2.2.2.2.2.2.2.2.1, x.2.2.2.2.2.2.2.2.2.2.2.2.2.2.2.2.2.2, ()), ()))
abbrev X_check_scope_expr_96_0_0_1 := (Int × (List Gb) × (List Gb) × (List ByteArray) × (List Th) × ByteArray × (List ByteArray) × (List (RT.C 2)) × Int × Int × Int × ByteArray × (List (RT.C 0)) × (List Gb) × (List Gb) × (List ByteArray) × (List Th) × ByteArray × (List ByteArray) × (List (RT.C 2)))
def fl_check_scope_expr_96_0_0_1 (d : StD x_check_scope_expr_96_0_0_1) : X_check_scope_expr_96_0_0_1 := (d.1.1, d.2.1.1.1.1.1, d.2.1.1.1.1.2.1, d.2.1.1.1.1.2.2.1, d.2.1.1.1.1.2.2.2.1, d.2.1.1.1.1.2.2.2.2.1, d.2.1.1.1.1.2.2.2.2.2.1, d.2.1.1.1.1.2.2.2.2.2.2.1, d.2.2.1.1, d.2.2.1.2.1, d.2.2.1.2.2.1, d.2.2.1.2.2.2.1, d.2.2.1.2.2.2.2.1, d.2.2.2.1.1, d.2.2.2.1.2.1, d.2.2.2.1.2.2.1, d.2.2.2.1.2.2.2.1, d.2.2.2.1.2.2.2.2.1, d.2.2.2.1.2.2.2.2.2.1, d.2.2.2.1.2.2.2.2.2.2.1)
def un_check_scope_expr_96_0_0_1 (x : X_check_scope_expr_96_0_0_1) : StD x_check_scope_expr_96_0_0_1 := ((x.1, ()), (((((x.2.1, x.2.2.1, x.2.2.2.1, x.2.2.2.2.1, x.2.2.2.2.2.1, x.2.2.2.2.2.2.1, x.2.2.2.2.2.2.2.1, ()), ()), ()), ()), (x.2.2.2.2.2.2.2.2.1, x.2.2.2.2.2.2.2.2.2.1, x.2.2.2.2.2.2.2.2.2.2.1, x.2.2.2.2.2.2.2.2.2.2.2.1, x.2.2.2.2.2.2.2.2.2.2.2.2.1, ()), (x.2.2.2.2.2.2.2.2.2.2.2.2.2.1, x.2.2.2.2.2.2.2.2.2.2.2.2.2.2.1, x.2.2.2.2.2.2.2.2.2.2.2.2.2.2.2.1, x.2.2.2.2.2.2.2.2.2.2.2.2.2.2.2.2.1, x.2.2.2.2.2.2.2.2.2.2.2.2.2.2.2.2.2.1, x.2.2.2.2.2.2.2.2.2.2.2.2.2.2.2.2.2.2.1, x.2.2.2.2.2.2.2.2.2.2.2.2.2.2.2.2.2.2.2, ()), ()))
noncomputable def st_check_scope_expr_96_0_0 (s0 : (List (RT.C 0))) (s7 : Int) (s8 : Int) (b2 : (List Gb)) (b2_1 : (List Gb)) (b2_2 : (List ByteArray)) (b2_3 : (List Th)) (b2_4 : ByteArray) (b2_5 : (List ByteArray)) (b2_6 : (List (RT.C 2))) (b1 : Int) (b1_1 : Int) (b1_2 : Int) (b1_3 : ByteArray) (b1_4 : (List (RT.C 0))) (b0 : (List Gb)) (b0_1 : (List Gb)) (b0_2 : (List ByteArray)) (b0_3 : (List Th)) (b0_4 : ByteArray) (b0_5 : (List ByteArray)) (b0_6 : (List (RT.C 2))) : Option (((List (RT.C 0)) × Int × Int × (List Gb) × (List Gb) × (List ByteArray) × (List Th) × ByteArray × (List ByteArray) × (List (RT.C 2)) × Int × Int × Int × ByteArray × (List (RT.C 0)) × (List Gb) × (List Gb) × (List ByteArray) × (List Th) × ByteArray × (List ByteArray) × (List (RT.C 2))) ⊕ (((List Gb) × (List Gb) × (List ByteArray) × (List Th) × ByteArray × (List ByteArray) × (List (RT.C 2)) × Int × Int × Int × ByteArray × (List (RT.C 0)) × (List Gb) × (List Gb) × (List ByteArray) × (List Th) × ByteArray × (List ByteArray) × (List (RT.C 2))) ⊕ (Int × (List Gb) × (List Gb) × (List ByteArray) × (List Th) × ByteArray × (List ByteArray) × (List (RT.C 2)) × Int × Int × Int × ByteArray × (List (RT.C 0)) × (List Gb) × (List Gb) × (List ByteArray) × (List Th) × ByteArray × (List ByteArray) × (List (RT.C 2))))) :=
  bif decide (s8 < s7) then
 bif decide (0 ≤ s8) then
 optC s0[s8.toNat]? none fun d25 ↦
 optC (Rec_check_scope_expr.K (((b2, b2_1, b2_2, b2_3), b2_4, b2_5, b2_6), uT0 d25, ())) none fun d26 ↦
 bif !d26 then some (Sum.inr (Sum.inr (s8, b2, b2_1, b2_2, b2_3, b2_4, b2_5, b2_6, b1, b1_1, b1_2, b1_3, b1_4, b0, b0_1, b0_2, b0_3, b0_4, b0_5, b0_6)))
 else some (Sum.inl (s0, s7, Go.IntKind.i64.wrap (s8 + 1), b2, b2_1, b2_2, b2_3, b2_4, b2_5, b2_6, b1, b1_1, b1_2, b1_3, b1_4, b0, b0_1, b0_2, b0_3, b0_4, b0_5, b0_6))
 else none
 else some (Sum.inr (Sum.inl (b2, b2_1, b2_2, b2_3, b2_4, b2_5, b2_6, b1, b1_1, b1_2, b1_3, b1_4, b0, b0_1, b0_2, b0_3, b0_4, b0_5, b0_6)))
noncomputable def sx_check_scope_expr_96_0_0 (x : X_check_scope_expr_96_0_0) : Option (X_check_scope_expr_96_0_0 ⊕ (X_check_scope_expr_96_0_0_0 ⊕ X_check_scope_expr_96_0_0_1)) := st_check_scope_expr_96_0_0 x.1 x.2.1 x.2.2.1 x.2.2.2.1 x.2.2.2.2.1 x.2.2.2.2.2.1 x.2.2.2.2.2.2.1 x.2.2.2.2.2.2.2.1 x.2.2.2.2.2.2.2.2.1 x.2.2.2.2.2.2.2.2.2.1 x.2.2.2.2.2.2.2.2.2.2.1 x.2.2.2.2.2.2.2.2.2.2.2.1 x.2.2.2.2.2.2.2.2.2.2.2.2.1 x.2.2.2.2.2.2.2.2.2.2.2.2.2.1 x.2.2.2.2.2.2.2.2.2.2.2.2.2.2.1 x.2.2.2.2.2.2.2.2.2.2.2.2.2.2.2.1 x.2.2.2.2.2.2.2.2.2.2.2.2.2.2.2.2.1 x.2.2.2.2.2.2.2.2.2.2.2.2.2.2.2.2.2.1 x.2.2.2.2.2.2.2.2.2.2.2.2.2.2.2.2.2.2.1 x.2.2.2.2.2.2.2.2.2.2.2.2.2.2.2.2.2.2.2.1 x.2.2.2.2.2.2.2.2.2.2.2.2.2.2.2.2.2.2.2.2.1 x.2.2.2.2.2.2.2.2.2.2.2.2.2.2.2.2.2.2.2.2.2
theorem rn_check_scope_expr_96_0_0 (x : X_check_scope_expr_96_0_0) : rdX (cxU sp_check_scope_expr [] 40 (1048576 ^ 9)) keeps 8 ⟨96, 19, keeps 96, 3⟩ 0 (bodyX 96 0) 3 kp_check_scope_expr_96_0 (sT s_check_scope_expr_96_0_0 (un_check_scope_expr_96_0_0 x)) (sH s_check_scope_expr_96_0_0 (un_check_scope_expr_96_0_0 x)) (rdO (fun T h => (rdS s_check_scope_expr_96_0_0 T h).map fl_check_scope_expr_96_0_0) (getOr (getE 2 x_check_scope_expr_96_0_0_0 fl_check_scope_expr_96_0_0_0) (getE 1 x_check_scope_expr_96_0_0_1 fl_check_scope_expr_96_0_0_1))) = sx_check_scope_expr_96_0_0 x := by kernel_rfl
noncomputable def L_check_scope_expr_96_0_0 (x : X_check_scope_expr_96_0_0) : Option (X_check_scope_expr_96_0_0_0 ⊕ X_check_scope_expr_96_0_0_1) := iterO (fun x => st_check_scope_expr_96_0_0 x.1 x.2.1 x.2.2.1 x.2.2.2.1 x.2.2.2.2.1 x.2.2.2.2.2.1 x.2.2.2.2.2.2.1 x.2.2.2.2.2.2.2.1 x.2.2.2.2.2.2.2.2.1 x.2.2.2.2.2.2.2.2.2.1 x.2.2.2.2.2.2.2.2.2.2.1 x.2.2.2.2.2.2.2.2.2.2.2.1 x.2.2.2.2.2.2.2.2.2.2.2.2.1 x.2.2.2.2.2.2.2.2.2.2.2.2.2.1 x.2.2.2.2.2.2.2.2.2.2.2.2.2.2.1 x.2.2.2.2.2.2.2.2.2.2.2.2.2.2.2.1 x.2.2.2.2.2.2.2.2.2.2.2.2.2.2.2.2.1 x.2.2.2.2.2.2.2.2.2.2.2.2.2.2.2.2.2.1 x.2.2.2.2.2.2.2.2.2.2.2.2.2.2.2.2.2.2.1 x.2.2.2.2.2.2.2.2.2.2.2.2.2.2.2.2.2.2.2.1 x.2.2.2.2.2.2.2.2.2.2.2.2.2.2.2.2.2.2.2.2.1 x.2.2.2.2.2.2.2.2.2.2.2.2.2.2.2.2.2.2.2.2.2) FUEL x
noncomputable def q_check_scope_expr_96_0 : Nat → Tm → Prog (Nat × Tm) := (varP 3 (fun T h => (rdS s_check_scope_expr_96_0_0 T h).map fl_check_scope_expr_96_0_0) L_check_scope_expr_96_0_0 (fun y => .alt y (altE 2 x_check_scope_expr_96_0_0_0 un_check_scope_expr_96_0_0_0) (altE 1 x_check_scope_expr_96_0_0_1 un_check_scope_expr_96_0_0_1)) (fun _ _ => .fail))
noncomputable def lc_check_scope_expr_96_0 : Lpc := ⟨96, 0, 19, (fun base T => .norm base (kp_check_scope_expr_96_0 0) T (q_check_scope_expr_96_0 base)), by kernel_rfl, by kernel_rfl, (loopU sp_check_scope_expr [] 40 (1048576 ^ 9) 8 (keep := kp_check_scope_expr_96_0) (q := q_check_scope_expr_96_0) (by kernel_rfl) (varX_ok (s := s_check_scope_expr_96_0_0) (un := un_check_scope_expr_96_0_0) (by rfl) (fun _ => rfl) (getOr_ok (getE_ok (s := x_check_scope_expr_96_0_0_0) (un := un_check_scope_expr_96_0_0_0) (by rfl) (fun _ => rfl)) (getE_ok (s := x_check_scope_expr_96_0_0_1) (un := un_check_scope_expr_96_0_0_1) (by rfl) (fun _ => rfl))) (step := sx_check_scope_expr_96_0_0) rn_check_scope_expr_96_0_0 (fun _ _ e => ⟨_, e⟩) (altOr_ok (altE_ok 2 x_check_scope_expr_96_0_0_0 un_check_scope_expr_96_0_0_0) (altE_ok 1 x_check_scope_expr_96_0_0_1 un_check_scope_expr_96_0_0_1)) (VarOk.fail _ _)))⟩
noncomputable def g_check_scope_expr (a0 : (Pg × Th)) (a1 : Xp) : Option Bool :=
  bif a1.1 != 2 then
 bif a1.1 != 3 then
 optC
 (L_check_scope_expr_96_0_0
 (a1.2.2.2.2, (↑(List.length a1.2.2.2.2) : Int), 0, a0.1.1, a0.1.2.1, a0.1.2.2.1, a0.1.2.2.2, a0.2.1, a0.2.2.1, a0.2.2.2, a1.1,
 a1.2.1, a1.2.2.1, a1.2.2.2.1, a1.2.2.2.2, a0.1.1, a0.1.2.1, a0.1.2.2.1, a0.1.2.2.2, a0.2))
 none fun d5 ↦ Sum.elim (fun e6 ↦ some !decide (-1 ≥ 0)) (fun e6 ↦ some !decide (e6.1 ≥ 0)) d5
 else
 optC (G_check_Array (a0.1, a1.2.2.2.1, ())) none fun d5 ↦
 bif decide (d5 ≥ 0) then
 optC
 (L_check_scope_expr_96_0_0
 (a1.2.2.2.2, (↑(List.length a1.2.2.2.2) : Int), 0, a0.1.1, a0.1.2.1, a0.1.2.2.1, a0.1.2.2.2, a0.2.1, a0.2.2.1, a0.2.2.2, a1.1,
 a1.2.1, a1.2.2.1, a1.2.2.2.1, a1.2.2.2.2, a0.1.1, a0.1.2.1, a0.1.2.2.1, a0.1.2.2.2, a0.2))
 none fun d6 ↦ Sum.elim (fun e7 ↦ some !decide (-1 ≥ 0)) (fun e7 ↦ some !decide (e7.1 ≥ 0)) d6
 else some false
 else
 optC (G_check_scope_isVar (a0, a1.2.2.2.1, ())) none fun d5 ↦
 bif d5 then
 bif a1.1 != 3 then
 optC
 (L_check_scope_expr_96_0_0
 (a1.2.2.2.2, (↑(List.length a1.2.2.2.2) : Int), 0, a0.1.1, a0.1.2.1, a0.1.2.2.1, a0.1.2.2.2, a0.2.1, a0.2.2.1, a0.2.2.2, a1.1,
 a1.2.1, a1.2.2.1, a1.2.2.2.1, a1.2.2.2.2, a0.1.1, a0.1.2.1, a0.1.2.2.1, a0.1.2.2.2, a0.2))
 none fun d6 ↦ Sum.elim (fun e7 ↦ some !decide (-1 ≥ 0)) (fun e7 ↦ some !decide (e7.1 ≥ 0)) d6
 else
 optC (G_check_Array (a0.1, a1.2.2.2.1, ())) none fun d6 ↦
 bif decide (d6 ≥ 0) then
 optC
 (L_check_scope_expr_96_0_0
 (a1.2.2.2.2, (↑(List.length a1.2.2.2.2) : Int), 0, a0.1.1, a0.1.2.1, a0.1.2.2.1, a0.1.2.2.2, a0.2.1, a0.2.2.1, a0.2.2.2,
 a1.1, a1.2.1, a1.2.2.1, a1.2.2.2.1, a1.2.2.2.2, a0.1.1, a0.1.2.1, a0.1.2.2.1, a0.1.2.2.2, a0.2))
 none fun d7 ↦ Sum.elim (fun e8 ↦ some !decide (-1 ≥ 0)) (fun e8 ↦ some !decide (e8.1 ≥ 0)) d7
 else some false
 else some false
theorem raw_check_scope_expr (a0 : (Pg × Th)) (a1 : Xp) : evGX1 (cxU sp_check_scope_expr [lc_check_scope_expr_96_0] 40 (1048576 ^ 9)) keeps 8 39 ash_check_scope_expr (.dat .bool) ((a0, a1, ()) : ((Pg × Th) × (Xp × Unit))) = g_check_scope_expr a0 a1 := by kernel_rfl
noncomputable def GI_check_scope_expr (x : ((Pg × Th) × (Xp × Unit))) : Option Bool := g_check_scope_expr x.1 x.2.1
noncomputable def conI_check_scope_expr : List AV → Prog AV := conP true ash_check_scope_expr (.dat .bool) GI_check_scope_expr
theorem sndI_check_scope_expr : SoundA Tryd.prog 39 conI_check_scope_expr := conP_sound (evF1_sound (tabOk_of tab_ok) (cmpsOk_of tab_ok cmps_ok) mixed (inU sp_check_scope_expr [lc_check_scope_expr_96_0] 40 (1048576 ^ 9)) (hspL sp_check_scope_expr) keeps 8 39) true (by rfl) (by rfl) (fun x r e => (evGX1_eq _ _ _ _ _ _ _).trans ((raw_check_scope_expr x.1 x.2.1).trans e)) (.inl rfl)
end
noncomputable def it_check_scope_expr : Nat → {K : ((Pg × Th) × (Xp × Unit)) → Option Bool // SoundA Tryd.prog 39 (conP true ash_check_scope_expr (.dat .bool) K)}
  | 0 => ⟨fun _ => none, conP_none⟩
  | k + 1 => letI : Rec_check_scope_expr := ⟨(it_check_scope_expr k).1, (it_check_scope_expr k).2⟩; ⟨GI_check_scope_expr, sndI_check_scope_expr⟩
noncomputable def G_check_scope_expr (x : ((Pg × Th) × (Xp × Unit))) : Option Bool := (it_check_scope_expr (SizeOf.sizeOf x + 1)).1 x
noncomputable def con_check_scope_expr : List AV → Prog AV := conP true ash_check_scope_expr (.dat .bool) G_check_scope_expr
theorem snd_check_scope_expr : SoundA Tryd.prog 39 con_check_scope_expr := conP_pick (sh := ash_check_scope_expr) (rs := .dat .bool) (n := fun x : ((Pg × Th) × (Xp × Unit)) => SizeOf.sizeOf x + 1) (F := fun k => (it_check_scope_expr k).1) (fun k => (it_check_scope_expr k).2)
end Go.Proofs.YtmjbedjnojcmfaaDoor.Ex

namespace Go.Proofs.YtmjbedjnojcmfaaDoor.Ex
set_option maxRecDepth 100000
set_option maxHeartbeats 2000000
set_option linter.unusedVariables false
set_option linter.unusedSimpArgs false
set_option linter.unusedSectionVars false
variable [Rec_check_scope_expr]
noncomputable def bd_check_scope_expr_96_0_0 (b2 : (List Gb)) (b2_1 : (List Gb)) (b2_2 : (List ByteArray)) (b2_3 : (List Th)) (b2_4 : ByteArray) (b2_5 : (List ByteArray)) (b2_6 : (List (RT.C 2))) (b1 : Int) (b1_1 : Int) (b1_2 : Int) (b1_3 : ByteArray) (b1_4 : (List (RT.C 0))) (b0 : (List Gb)) (b0_1 : (List Gb)) (b0_2 : (List ByteArray)) (b0_3 : (List Th)) (b0_4 : ByteArray) (b0_5 : (List ByteArray)) (b0_6 : (List (RT.C 2))) (s0 : (List (RT.C 0))) (i : Nat)  (d : (RT.C 0)) : Option (Unit ⊕ (X_check_scope_expr_96_0_0_0 ⊕ X_check_scope_expr_96_0_0_1)) :=
  optC (Rec_check_scope_expr.K (((b2, b2_1, b2_2, b2_3), b2_4, b2_5, b2_6), uT0 d, ())) (none) fun d26 ↦
   bif !d26 then
   some (Sum.inr (Sum.inr ((i : Int), b2, b2_1, b2_2, b2_3, b2_4, b2_5, b2_6, b1, b1_1, b1_2, b1_3, b1_4, b0, b0_1, b0_2, b0_3, b0_4, b0_5, b0_6)))
 else some (Sum.inl ())
noncomputable def fn_check_scope_expr_96_0_0 (b2 : (List Gb)) (b2_1 : (List Gb)) (b2_2 : (List ByteArray)) (b2_3 : (List Th)) (b2_4 : ByteArray) (b2_5 : (List ByteArray)) (b2_6 : (List (RT.C 2))) (b1 : Int) (b1_1 : Int) (b1_2 : Int) (b1_3 : ByteArray) (b1_4 : (List (RT.C 0))) (b0 : (List Gb)) (b0_1 : (List Gb)) (b0_2 : (List ByteArray)) (b0_3 : (List Th)) (b0_4 : ByteArray) (b0_5 : (List ByteArray)) (b0_6 : (List (RT.C 2))) (s0 : (List (RT.C 0)))  : Option (X_check_scope_expr_96_0_0_0 ⊕ X_check_scope_expr_96_0_0_1) :=
  some (Sum.inl (b2, b2_1, b2_2, b2_3, b2_4, b2_5, b2_6, b1, b1_1, b1_2, b1_3, b1_4, b0, b0_1, b0_2, b0_3, b0_4, b0_5, b0_6))
noncomputable abbrev rx_check_scope_expr_96_0_0 (b2 : (List Gb)) (b2_1 : (List Gb)) (b2_2 : (List ByteArray)) (b2_3 : (List Th)) (b2_4 : ByteArray) (b2_5 : (List ByteArray)) (b2_6 : (List (RT.C 2))) (b1 : Int) (b1_1 : Int) (b1_2 : Int) (b1_3 : ByteArray) (b1_4 : (List (RT.C 0))) (b0 : (List Gb)) (b0_1 : (List Gb)) (b0_2 : (List ByteArray)) (b0_3 : (List Th)) (b0_4 : ByteArray) (b0_5 : (List ByteArray)) (b0_6 : (List (RT.C 2))) (s0 : (List (RT.C 0))) (i : Nat) (s : Unit) : X_check_scope_expr_96_0_0 := (s0, (s0.length : Int), (i : Int), b2, b2_1, b2_2, b2_3, b2_4, b2_5, b2_6, b1, b1_1, b1_2, b1_3, b1_4, b0, b0_1, b0_2, b0_3, b0_4, b0_5, b0_6)
noncomputable def rv_check_scope_expr_96_0_0 (b2 : (List Gb)) (b2_1 : (List Gb)) (b2_2 : (List ByteArray)) (b2_3 : (List Th)) (b2_4 : ByteArray) (b2_5 : (List ByteArray)) (b2_6 : (List (RT.C 2))) (b1 : Int) (b1_1 : Int) (b1_2 : Int) (b1_3 : ByteArray) (b1_4 : (List (RT.C 0))) (b0 : (List Gb)) (b0_1 : (List Gb)) (b0_2 : (List ByteArray)) (b0_3 : (List Th)) (b0_4 : ByteArray) (b0_5 : (List ByteArray)) (b0_6 : (List (RT.C 2))) (s0 : (List (RT.C 0))) (s : Unit) : Option (X_check_scope_expr_96_0_0_0 ⊕ X_check_scope_expr_96_0_0_1) := rangeO (fun i s d => bd_check_scope_expr_96_0_0 b2 b2_1 b2_2 b2_3 b2_4 b2_5 b2_6 b1 b1_1 b1_2 b1_3 b1_4 b0 b0_1 b0_2 b0_3 b0_4 b0_5 b0_6 s0 i  d) (fun s => fn_check_scope_expr_96_0_0 b2 b2_1 b2_2 b2_3 b2_4 b2_5 b2_6 b1 b1_1 b1_2 b1_3 b1_4 b0 b0_1 b0_2 b0_3 b0_4 b0_5 b0_6 s0 ) 0 s0 s
theorem rg_check_scope_expr_96_0_0 (b2 : (List Gb)) (b2_1 : (List Gb)) (b2_2 : (List ByteArray)) (b2_3 : (List Th)) (b2_4 : ByteArray) (b2_5 : (List ByteArray)) (b2_6 : (List (RT.C 2))) (b1 : Int) (b1_1 : Int) (b1_2 : Int) (b1_3 : ByteArray) (b1_4 : (List (RT.C 0))) (b0 : (List Gb)) (b0_1 : (List Gb)) (b0_2 : (List ByteArray)) (b0_3 : (List Th)) (b0_4 : ByteArray) (b0_5 : (List ByteArray)) (b0_6 : (List (RT.C 2))) (s0 : (List (RT.C 0))) (s : Unit) (hl : s0.length < 9223372036854775807) : L_check_scope_expr_96_0_0 (s0, (s0.length : Int), 0, b2, b2_1, b2_2, b2_3, b2_4, b2_5, b2_6, b1, b1_1, b1_2, b1_3, b1_4, b0, b0_1, b0_2, b0_3, b0_4, b0_5, b0_6) = rv_check_scope_expr_96_0_0 b2 b2_1 b2_2 b2_3 b2_4 b2_5 b2_6 b1 b1_1 b1_2 b1_3 b1_4 b0 b0_1 b0_2 b0_3 b0_4 b0_5 b0_6 s0 s := by
  unfold L_check_scope_expr_96_0_0 rv_check_scope_expr_96_0_0
  refine iterO_range0 s0 (rx_check_scope_expr_96_0_0 b2 b2_1 b2_2 b2_3 b2_4 b2_5 b2_6 b1 b1_1 b1_2 b1_3 b1_4 b0 b0_1 b0_2 b0_3 b0_4 b0_5 b0_6 s0) _ _ ?_ ?_ s (by unfold FUEL; omega)
  · intro i s d hi hd
    have e1 : decide ((i : Int) < (s0.length : Int)) = true := decide_eq_true (by omega)
    have e2 : decide (0 ≤ (i : Int)) = true := decide_eq_true (by omega)
    have e3 : Int.toNat (i : Int) = i := Int.toNat_natCast i
    have e4 := wrap_next hi (Nat.le_of_lt hl)
    show st_check_scope_expr_96_0_0 (s0) ((s0.length : Int)) ((i : Int)) (b2) (b2_1) (b2_2) (b2_3) (b2_4) (b2_5) (b2_6) (b1) (b1_1) (b1_2) (b1_3) (b1_4) (b0) (b0_1) (b0_2) (b0_3) (b0_4) (b0_5) (b0_6) = upd _ (bd_check_scope_expr_96_0_0 b2 b2_1 b2_2 b2_3 b2_4 b2_5 b2_6 b1 b1_1 b1_2 b1_3 b1_4 b0 b0_1 b0_2 b0_3 b0_4 b0_5 b0_6 s0 i  d)
    unfold st_check_scope_expr_96_0_0 bd_check_scope_expr_96_0_0
    simp only [e1, e2, e3, e4, hd, cond_true, cond_false, optC_some, upd_cond, upd_optC, upd_elim, upd_inl, upd_inr, upd_none]
  · intro s
    have e1 : decide ((s0.length : Int) < (s0.length : Int)) = false := decide_eq_false (by omega)
    show st_check_scope_expr_96_0_0 (s0) ((s0.length : Int)) ((s0.length : Int)) (b2) (b2_1) (b2_2) (b2_3) (b2_4) (b2_5) (b2_6) (b1) (b1_1) (b1_2) (b1_3) (b1_4) (b0) (b0_1) (b0_2) (b0_3) (b0_4) (b0_5) (b0_6) = _
    unfold st_check_scope_expr_96_0_0 fn_check_scope_expr_96_0_0
    rw [e1]
    rfl
end Go.Proofs.YtmjbedjnojcmfaaDoor.Ex

namespace Go.Proofs.YtmjbedjnojcmfaaDoor.Ex
open Go.Proofs Go.Proofs.YtmjbedjnojcmfaaDoor
set_option maxRecDepth 100000
set_option maxHeartbeats 2000000
set_option linter.unusedVariables false
set_option linter.unusedSimpArgs false
def ash_check_scope_cond : List Sh := [.dat (.st (.pair tPg tTh)), .dat tCd]
def kp_check_scope_cond_96_0 : Nat → List Nat := fun c => bif c.beq 0 then [0, 1, 7, 8] else [4]
def kp_check_scope_cond_97_0 : Nat → List Nat := fun c => bif c.beq 0 then [0, 1, 7, 8] else [4]
class Rec_check_scope_cond where
  K : ((Pg × Th) × (Cd × Unit)) → Option Bool
  s : SoundA Tryd.prog 41 (conP true ash_check_scope_cond (.dat .bool) K)
section
variable [Rec_check_scope_cond]
noncomputable def sp_check_scope_cond : List Con := [⟨39, con_check_scope_expr, snd_check_scope_expr⟩, ⟨41, (conP true ash_check_scope_cond (.dat .bool) Rec_check_scope_cond.K), Rec_check_scope_cond.s⟩]
def s_check_scope_cond_96_0_0 : StS := ⟨[(0, .sl (.mu 0)), (1, .clo 87 [] [.ptr 2 0]), (7, .int .i64), (8, .int .i64)], [(2, .box [.clo 39 [.agg [.sl tGb, .sl tGb, .sl .str, .sl tTh, .str, .sl .str, .sl (.mu 2)]] []]), (1, .box [.int .i64, .int .i64, .sl (.mu 0), .sl (.mu 1)]), (0, .box [.sl tGb, .sl tGb, .sl .str, .sl tTh, .str, .sl .str, .sl (.mu 2)])], 3⟩
def x_check_scope_cond_96_0_0_0 : StS := ⟨[(4, .undef)], [(2, .box [.clo 39 [.agg [.sl tGb, .sl tGb, .sl .str, .sl tTh, .str, .sl .str, .sl (.mu 2)]] []]), (1, .box [.int .i64, .int .i64, .sl (.mu 0), .sl (.mu 1)]), (0, .box [.sl tGb, .sl tGb, .sl .str, .sl tTh, .str, .sl .str, .sl (.mu 2)])], 3⟩
def x_check_scope_cond_96_0_0_1 : StS := ⟨[(4, .int .i64)], [(2, .box [.clo 39 [.agg [.sl tGb, .sl tGb, .sl .str, .sl tTh, .str, .sl .str, .sl (.mu 2)]] []]), (1, .box [.int .i64, .int .i64, .sl (.mu 0), .sl (.mu 1)]), (0, .box [.sl tGb, .sl tGb, .sl .str, .sl tTh, .str, .sl .str, .sl (.mu 2)])], 3⟩
abbrev X_check_scope_cond_96_0_0 := ((List (RT.C 0)) × Int × Int × (List Gb) × (List Gb) × (List ByteArray) × (List Th) × ByteArray × (List ByteArray) × (List (RT.C 2)) × Int × Int × (List (RT.C 0)) × (List (RT.C 1)) × (List Gb) × (List Gb) × (List ByteArray) × (List Th) × ByteArray × (List ByteArray) × (List (RT.C 2)))
def fl_check_scope_cond_96_0_0 (d : StD s_check_scope_cond_96_0_0) : X_check_scope_cond_96_0_0 := (d.1.1, d.1.2.2.1, d.1.2.2.2.1, d.2.1.1.1.1.1, d.2.1.1.1.1.2.1, d.2.1.1.1.1.2.2.1, d.2.1.1.1.1.2.2.2.1, d.2.1.1.1.1.2.2.2.2.1, d.2.1.1.1.1.2.2.2.2.2.1, d.2.1.1.1.1.2.2.2.2.2.2.1, d.2.2.1.1, d.2.2.1.2.1, d.2.2.1.2.2.1, d.2.2.1.2.2.2.1, d.2.2.2.1.1, d.2.2.2.1.2.1, d.2.2.2.1.2.2.1, d.2.2.2.1.2.2.2.1, d.2.2.2.1.2.2.2.2.1, d.2.2.2.1.2.2.2.2.2.1, d.2.2.2.1.2.2.2.2.2.2.1)
def un_check_scope_cond_96_0_0 (x : X_check_scope_cond_96_0_0) : StD s_check_scope_cond_96_0_0 := ((x.1, ((), ((), ())), x.2.1, x.2.2.1, ()), (((((x.2.2.2.1, x.2.2.2.2.1, x.2.2.2.2.2.1, x.2.2.2.2.2.2.1, x.2.2.2.2.2.2.2.1, x.2.2.2.2.2.2.2.2.1, x.2.2.2.2.2.2.2.2.2.1, ()), ()), ()), ()), (x.2.2.2.2.2.2.2.2.2.2.1, x.2.2.2.2.2.2.2.2.2.2.2.1, x.2.2.2.2.2.2.2.2.2.2.2.2.1, x.2.2.2.2.2.2.2.2.2.2.2.2.2.1, ()), (x.2.2.2.2.2.2.2.2.2.2.2.2.2.2.1, x.2.2.2.2.2.2.2.2.2.2.2.2.2.2.2.1, x.2.2.2.2.2.2.2.2.2.2.2.2.2.2.2.2.1, x.2.2.2.2.2.2.2.2.2.2.2.2.2.2.2.2.2.1, x.2.2.2.2.2.2.2.2.2.2.2.2.2.2.2.2.2.2.1, x.2.2.2.2.2.2.2.2.2.2.2.2.2.2.2.2.2.2.2.1, x.2.2.2.2.2.2.2.2.2.2.2.2.2.2.2.2.2.2.2.2, ()), ()))
abbrev X_check_scope_cond_96_0_0_0 := ((List Gb) × (List Gb) × (List ByteArray) × (List Th) × ByteArray × (List ByteArray) × (List (RT.C 2)) × Int × Int × (List (RT.C 0)) × (List (RT.C 1)) × (List Gb) × (List Gb) × (List ByteArray) × (List Th) × ByteArray × (List ByteArray) × (List (RT.C 2)))
def fl_check_scope_cond_96_0_0_0 (d : StD x_check_scope_cond_96_0_0_0) : X_check_scope_cond_96_0_0_0 := (d.2.1.1.1.1.1, d.2.1.1.1.1.2.1, d.2.1.1.1.1.2.2.1, d.2.1.1.1.1.2.2.2.1, d.2.1.1.1.1.2.2.2.2.1, d.2.1.1.1.1.2.2.2.2.2.1, d.2.1.1.1.1.2.2.2.2.2.2.1, d.2.2.1.1, d.2.2.1.2.1, d.2.2.1.2.2.1, d.2.2.1.2.2.2.1, d.2.2.2.1.1, d.2.2.2.1.2.1, d.2.2.2.1.2.2.1, d.2.2.2.1.2.2.2.1, d.2.2.2.1.2.2.2.2.1, d.2.2.2.1.2.2.2.2.2.1, d.2.2.2.1.2.2.2.2.2.2.1)
def un_check_scope_cond_96_0_0_0 (x : X_check_scope_cond_96_0_0_0) : StD x_check_scope_cond_96_0_0_0 := (((), ()), (((((x.1, x.2.1, x.2.2.1, x.2.2.2.1, x.2.2.2.2.1, x.2.2.2.2.2.1, x.2.2.2.2.2.2.1, ()), ()), ()), ()), (x.2.2.2.2.2.2.2.1, x.2.2.2.2.2.2.2.2.1, x.2.2.2.2.2.2.2.2.2.1, x.2.2.2.2.2.2.2.2.2.2.1, ()), (x.2.2.2.2.2.2.2.2.2.2.2.1, x.2.2.2.2.2.2.2.2.2.2.2.2.1, x.2.2.2.2.2.2.2.2.2.2.2.2.2.1, x.2.2.2.2.2.2.2.2.2.2.2.2.2.2.1, x.2.2.2.2.2.2.2.2.2.2.2.2.2.2.2.1, x.2.2.2.2.2.2.2.2.2.2.2.2.2.2.2.2.1, x.2.2.2.2.2.2.2.2.2.2.2.2.2.2.2.2.2, ()), ()))
abbrev X_check_scope_cond_96_0_0_1 := (Int × (List Gb) × (List Gb) × (List ByteArray) × (List Th) × ByteArray × (List ByteArray) × (List (RT.C 2)) × Int × Int × (List (RT.C 0)) × (List (RT.C 1)) × (List Gb) × (List Gb) × (List ByteArray) × (List Th) × ByteArray × (List ByteArray) × (List (RT.C 2)))
def fl_check_scope_cond_96_0_0_1 (d : StD x_check_scope_cond_96_0_0_1) : X_check_scope_cond_96_0_0_1 := (d.1.1, d.2.1.1.1.1.1, d.2.1.1.1.1.2.1, d.2.1.1.1.1.2.2.1, d.2.1.1.1.1.2.2.2.1, d.2.1.1.1.1.2.2.2.2.1, d.2.1.1.1.1.2.2.2.2.2.1, d.2.1.1.1.1.2.2.2.2.2.2.1, d.2.2.1.1, d.2.2.1.2.1, d.2.2.1.2.2.1, d.2.2.1.2.2.2.1, d.2.2.2.1.1, d.2.2.2.1.2.1, d.2.2.2.1.2.2.1, d.2.2.2.1.2.2.2.1, d.2.2.2.1.2.2.2.2.1, d.2.2.2.1.2.2.2.2.2.1, d.2.2.2.1.2.2.2.2.2.2.1)
def un_check_scope_cond_96_0_0_1 (x : X_check_scope_cond_96_0_0_1) : StD x_check_scope_cond_96_0_0_1 := ((x.1, ()), (((((x.2.1, x.2.2.1, x.2.2.2.1, x.2.2.2.2.1, x.2.2.2.2.2.1, x.2.2.2.2.2.2.1, x.2.2.2.2.2.2.2.1, ()), ()), ()), ()), (x.2.2.2.2.2.2.2.2.1, x.2.2.2.2.2.2.2.2.2.1, x.2.2.2.2.2.2.2.2.2.2.1, x.2.2.2.2.2.2.2.2.2.2.2.1, ()), (x.2.2.2.2.2.2.2.2.2.2.2.2.1, x.2.2.2.2.2.2.2.2.2.2.2.2.2.1, x.2.2.2.2.2.2.2.2.2.2.2.2.2.2.1, x.2.2.2.2.2.2.2.2.2.2.2.2.2.2.2.1, x.2.2.2.2.2.2.2.2.2.2.2.2.2.2.2.2.1, x.2.2.2.2.2.2.2.2.2.2.2.2.2.2.2.2.2.1, x.2.2.2.2.2.2.2.2.2.2.2.2.2.2.2.2.2.2, ()), ()))
noncomputable def st_check_scope_cond_96_0_0 (s0 : (List (RT.C 0))) (s7 : Int) (s8 : Int) (b2 : (List Gb)) (b2_1 : (List Gb)) (b2_2 : (List ByteArray)) (b2_3 : (List Th)) (b2_4 : ByteArray) (b2_5 : (List ByteArray)) (b2_6 : (List (RT.C 2))) (b1 : Int) (b1_1 : Int) (b1_2 : (List (RT.C 0))) (b1_3 : (List (RT.C 1))) (b0 : (List Gb)) (b0_1 : (List Gb)) (b0_2 : (List ByteArray)) (b0_3 : (List Th)) (b0_4 : ByteArray) (b0_5 : (List ByteArray)) (b0_6 : (List (RT.C 2))) : Option (((List (RT.C 0)) × Int × Int × (List Gb) × (List Gb) × (List ByteArray) × (List Th) × ByteArray × (List ByteArray) × (List (RT.C 2)) × Int × Int × (List (RT.C 0)) × (List (RT.C 1)) × (List Gb) × (List Gb) × (List ByteArray) × (List Th) × ByteArray × (List ByteArray) × (List (RT.C 2))) ⊕ (((List Gb) × (List Gb) × (List ByteArray) × (List Th) × ByteArray × (List ByteArray) × (List (RT.C 2)) × Int × Int × (List (RT.C 0)) × (List (RT.C 1)) × (List Gb) × (List Gb) × (List ByteArray) × (List Th) × ByteArray × (List ByteArray) × (List (RT.C 2))) ⊕ (Int × (List Gb) × (List Gb) × (List ByteArray) × (List Th) × ByteArray × (List ByteArray) × (List (RT.C 2)) × Int × Int × (List (RT.C 0)) × (List (RT.C 1)) × (List Gb) × (List Gb) × (List ByteArray) × (List Th) × ByteArray × (List ByteArray) × (List (RT.C 2))))) :=
  bif decide (s8 < s7) then
 bif decide (0 ≤ s8) then
 optC s0[s8.toNat]? none fun d25 ↦
 optC (G_check_scope_expr (((b2, b2_1, b2_2, b2_3), b2_4, b2_5, b2_6), uT0 d25, ())) none fun d26 ↦
 bif !d26 then some (Sum.inr (Sum.inr (s8, b2, b2_1, b2_2, b2_3, b2_4, b2_5, b2_6, b1, b1_1, b1_2, b1_3, b0, b0_1, b0_2, b0_3, b0_4, b0_5, b0_6)))
 else some (Sum.inl (s0, s7, Go.IntKind.i64.wrap (s8 + 1), b2, b2_1, b2_2, b2_3, b2_4, b2_5, b2_6, b1, b1_1, b1_2, b1_3, b0, b0_1, b0_2, b0_3, b0_4, b0_5, b0_6))
 else none
 else some (Sum.inr (Sum.inl (b2, b2_1, b2_2, b2_3, b2_4, b2_5, b2_6, b1, b1_1, b1_2, b1_3, b0, b0_1, b0_2, b0_3, b0_4, b0_5, b0_6)))
noncomputable def sx_check_scope_cond_96_0_0 (x : X_check_scope_cond_96_0_0) : Option (X_check_scope_cond_96_0_0 ⊕ (X_check_scope_cond_96_0_0_0 ⊕ X_check_scope_cond_96_0_0_1)) := st_check_scope_cond_96_0_0 x.1 x.2.1 x.2.2.1 x.2.2.2.1 x.2.2.2.2.1 x.2.2.2.2.2.1 x.2.2.2.2.2.2.1 x.2.2.2.2.2.2.2.1 x.2.2.2.2.2.2.2.2.1 x.2.2.2.2.2.2.2.2.2.1 x.2.2.2.2.2.2.2.2.2.2.1 x.2.2.2.2.2.2.2.2.2.2.2.1 x.2.2.2.2.2.2.2.2.2.2.2.2.1 x.2.2.2.2.2.2.2.2.2.2.2.2.2.1 x.2.2.2.2.2.2.2.2.2.2.2.2.2.2.1 x.2.2.2.2.2.2.2.2.2.2.2.2.2.2.2.1 x.2.2.2.2.2.2.2.2.2.2.2.2.2.2.2.2.1 x.2.2.2.2.2.2.2.2.2.2.2.2.2.2.2.2.2.1 x.2.2.2.2.2.2.2.2.2.2.2.2.2.2.2.2.2.2.1 x.2.2.2.2.2.2.2.2.2.2.2.2.2.2.2.2.2.2.2.1 x.2.2.2.2.2.2.2.2.2.2.2.2.2.2.2.2.2.2.2.2
theorem rn_check_scope_cond_96_0_0 (x : X_check_scope_cond_96_0_0) : rdX (cxU sp_check_scope_cond [] 40 (1048576 ^ 9)) keeps 8 ⟨96, 19, keeps 96, 3⟩ 0 (bodyX 96 0) 3 kp_check_scope_cond_96_0 (sT s_check_scope_cond_96_0_0 (un_check_scope_cond_96_0_0 x)) (sH s_check_scope_cond_96_0_0 (un_check_scope_cond_96_0_0 x)) (rdO (fun T h => (rdS s_check_scope_cond_96_0_0 T h).map fl_check_scope_cond_96_0_0) (getOr (getE 2 x_check_scope_cond_96_0_0_0 fl_check_scope_cond_96_0_0_0) (getE 1 x_check_scope_cond_96_0_0_1 fl_check_scope_cond_96_0_0_1))) = sx_check_scope_cond_96_0_0 x := by kernel_rfl
noncomputable def L_check_scope_cond_96_0_0 (x : X_check_scope_cond_96_0_0) : Option (X_check_scope_cond_96_0_0_0 ⊕ X_check_scope_cond_96_0_0_1) := iterO (fun x => st_check_scope_cond_96_0_0 x.1 x.2.1 x.2.2.1 x.2.2.2.1 x.2.2.2.2.1 x.2.2.2.2.2.1 x.2.2.2.2.2.2.1 x.2.2.2.2.2.2.2.1 x.2.2.2.2.2.2.2.2.1 x.2.2.2.2.2.2.2.2.2.1 x.2.2.2.2.2.2.2.2.2.2.1 x.2.2.2.2.2.2.2.2.2.2.2.1 x.2.2.2.2.2.2.2.2.2.2.2.2.1 x.2.2.2.2.2.2.2.2.2.2.2.2.2.1 x.2.2.2.2.2.2.2.2.2.2.2.2.2.2.1 x.2.2.2.2.2.2.2.2.2.2.2.2.2.2.2.1 x.2.2.2.2.2.2.2.2.2.2.2.2.2.2.2.2.1 x.2.2.2.2.2.2.2.2.2.2.2.2.2.2.2.2.2.1 x.2.2.2.2.2.2.2.2.2.2.2.2.2.2.2.2.2.2.1 x.2.2.2.2.2.2.2.2.2.2.2.2.2.2.2.2.2.2.2.1 x.2.2.2.2.2.2.2.2.2.2.2.2.2.2.2.2.2.2.2.2) FUEL x
noncomputable def q_check_scope_cond_96_0 : Nat → Tm → Prog (Nat × Tm) := (varP 3 (fun T h => (rdS s_check_scope_cond_96_0_0 T h).map fl_check_scope_cond_96_0_0) L_check_scope_cond_96_0_0 (fun y => .alt y (altE 2 x_check_scope_cond_96_0_0_0 un_check_scope_cond_96_0_0_0) (altE 1 x_check_scope_cond_96_0_0_1 un_check_scope_cond_96_0_0_1)) (fun _ _ => .fail))
noncomputable def lc_check_scope_cond_96_0 : Lpc := ⟨96, 0, 19, (fun base T => .norm base (kp_check_scope_cond_96_0 0) T (q_check_scope_cond_96_0 base)), by kernel_rfl, by kernel_rfl, (loopU sp_check_scope_cond [] 40 (1048576 ^ 9) 8 (keep := kp_check_scope_cond_96_0) (q := q_check_scope_cond_96_0) (by kernel_rfl) (varX_ok (s := s_check_scope_cond_96_0_0) (un := un_check_scope_cond_96_0_0) (by rfl) (fun _ => rfl) (getOr_ok (getE_ok (s := x_check_scope_cond_96_0_0_0) (un := un_check_scope_cond_96_0_0_0) (by rfl) (fun _ => rfl)) (getE_ok (s := x_check_scope_cond_96_0_0_1) (un := un_check_scope_cond_96_0_0_1) (by rfl) (fun _ => rfl))) (step := sx_check_scope_cond_96_0_0) rn_check_scope_cond_96_0_0 (fun _ _ e => ⟨_, e⟩) (altOr_ok (altE_ok 2 x_check_scope_cond_96_0_0_0 un_check_scope_cond_96_0_0_0) (altE_ok 1 x_check_scope_cond_96_0_0_1 un_check_scope_cond_96_0_0_1)) (VarOk.fail _ _)))⟩
noncomputable abbrev cx_check_scope_cond_97_0 := cxU sp_check_scope_cond [lc_check_scope_cond_96_0] 40 (1048576 ^ 9)
def s_check_scope_cond_97_0_0 : StS := ⟨[(0, .sl (.mu 1)), (1, .clo 89 [] [.ptr 3 0]), (7, .int .i64), (8, .int .i64)], [(3, .box [.clo 41 [.agg [.sl tGb, .sl tGb, .sl .str, .sl tTh, .str, .sl .str, .sl (.mu 2)]] []]), (2, .box [.clo 39 [.agg [.sl tGb, .sl tGb, .sl .str, .sl tTh, .str, .sl .str, .sl (.mu 2)]] []]), (1, .box [.int .i64, .int .i64, .sl (.mu 0), .sl (.mu 1)]), (0, .box [.sl tGb, .sl tGb, .sl .str, .sl tTh, .str, .sl .str, .sl (.mu 2)])], 4⟩
def x_check_scope_cond_97_0_0_0 : StS := ⟨[(4, .undef)], [(3, .box [.clo 41 [.agg [.sl tGb, .sl tGb, .sl .str, .sl tTh, .str, .sl .str, .sl (.mu 2)]] []]), (2, .box [.clo 39 [.agg [.sl tGb, .sl tGb, .sl .str, .sl tTh, .str, .sl .str, .sl (.mu 2)]] []]), (1, .box [.int .i64, .int .i64, .sl (.mu 0), .sl (.mu 1)]), (0, .box [.sl tGb, .sl tGb, .sl .str, .sl tTh, .str, .sl .str, .sl (.mu 2)])], 4⟩
def x_check_scope_cond_97_0_0_1 : StS := ⟨[(4, .int .i64)], [(3, .box [.clo 41 [.agg [.sl tGb, .sl tGb, .sl .str, .sl tTh, .str, .sl .str, .sl (.mu 2)]] []]), (2, .box [.clo 39 [.agg [.sl tGb, .sl tGb, .sl .str, .sl tTh, .str, .sl .str, .sl (.mu 2)]] []]), (1, .box [.int .i64, .int .i64, .sl (.mu 0), .sl (.mu 1)]), (0, .box [.sl tGb, .sl tGb, .sl .str, .sl tTh, .str, .sl .str, .sl (.mu 2)])], 4⟩
abbrev X_check_scope_cond_97_0_0 := ((List (RT.C 1)) × Int × Int × (List Gb) × (List Gb) × (List ByteArray) × (List Th) × ByteArray × (List ByteArray) × (List (RT.C 2)) × (List Gb) × (List Gb) × (List ByteArray) × (List Th) × ByteArray × (List ByteArray) × (List (RT.C 2)) × Int × Int × (List (RT.C 0)) × (List (RT.C 1)) × (List Gb) × (List Gb) × (List ByteArray) × (List Th) × ByteArray × (List ByteArray) × (List (RT.C 2)))
def fl_check_scope_cond_97_0_0 (d : StD s_check_scope_cond_97_0_0) : X_check_scope_cond_97_0_0 := (d.1.1, d.1.2.2.1, d.1.2.2.2.1, d.2.1.1.1.1.1, d.2.1.1.1.1.2.1, d.2.1.1.1.1.2.2.1, d.2.1.1.1.1.2.2.2.1, d.2.1.1.1.1.2.2.2.2.1, d.2.1.1.1.1.2.2.2.2.2.1, d.2.1.1.1.1.2.2.2.2.2.2.1, d.2.2.1.1.1.1.1, d.2.2.1.1.1.1.2.1, d.2.2.1.1.1.1.2.2.1, d.2.2.1.1.1.1.2.2.2.1, d.2.2.1.1.1.1.2.2.2.2.1, d.2.2.1.1.1.1.2.2.2.2.2.1, d.2.2.1.1.1.1.2.2.2.2.2.2.1, d.2.2.2.1.1, d.2.2.2.1.2.1, d.2.2.2.1.2.2.1, d.2.2.2.1.2.2.2.1, d.2.2.2.2.1.1, d.2.2.2.2.1.2.1, d.2.2.2.2.1.2.2.1, d.2.2.2.2.1.2.2.2.1, d.2.2.2.2.1.2.2.2.2.1, d.2.2.2.2.1.2.2.2.2.2.1, d.2.2.2.2.1.2.2.2.2.2.2.1)
def un_check_scope_cond_97_0_0 (x : X_check_scope_cond_97_0_0) : StD s_check_scope_cond_97_0_0 := ((x.1, ((), ((), ())), x.2.1, x.2.2.1, ()), (((((x.2.2.2.1, x.2.2.2.2.1, x.2.2.2.2.2.1, x.2.2.2.2.2.2.1, x.2.2.2.2.2.2.2.1, x.2.2.2.2.2.2.2.2.1, x.2.2.2.2.2.2.2.2.2.1, ()), ()), ()), ()), ((((x.2.2.2.2.2.2.2.2.2.2.1, x.2.2.2.2.2.2.2.2.2.2.2.1, x.2.2.2.2.2.2.2.2.2.2.2.2.1, x.2.2.2.2.2.2.2.2.2.2.2.2.2.1, x.2.2.2.2.2.2.2.2.2.2.2.2.2.2.1, x.2.2.2.2.2.2.2.2.2.2.2.2.2.2.2.1, x.2.2.2.2.2.2.2.2.2.2.2.2.2.2.2.2.1, ()), ()), ()), ()), (x.2.2.2.2.2.2.2.2.2.2.2.2.2.2.2.2.2.1, x.2.2.2.2.2.2.2.2.2.2.2.2.2.2.2.2.2.2.1, x.2.2.2.2.2.2.2.2.2.2.2.2.2.2.2.2.2.2.2.1, x.2.2.2.2.2.2.2.2.2.2.2.2.2.2.2.2.2.2.2.2.1, ()), (x.2.2.2.2.2.2.2.2.2.2.2.2.2.2.2.2.2.2.2.2.2.1, x.2.2.2.2.2.2.2.2.2.2.2.2.2.2.2.2.2.2.2.2.2.2.1, x.2.2.2.2.2.2.2.2.2.2.2.2.2.2.2.2.2.2.2.2.2.2.2.1, x.2.2.2.2.2.2.2.2.2.2.2.2.2.2.2.2.2.2.2.2.2.2.2.2.1, x.2.2.2.2.2.2.2.2.2.2.2.2.2.2.2.2.2.2.2.2.2.2.2.2.2.1, x.2.2.2.2.2.2.2.2.2.2.2.2.2.2.2.2.2.2.2.2.2.2.2.2.2.2.1, x.2.2.2.2.2.2.2.2.2.2.2.2.2.2.2.2.2.2.2.2.2.2.2.2.2.2.2, ()), ()))
abbrev X_check_scope_cond_97_0_0_0 := ((List Gb) × (List Gb) × (List ByteArray) × (List Th) × ByteArray × (List ByteArray) × (List (RT.C 2)) × (List Gb) × (List Gb) × (List ByteArray) × (List Th) × ByteArray × (List ByteArray) × (List (RT.C 2)) × Int × Int × (List (RT.C 0)) × (List (RT.C 1)) × (List Gb) × (List Gb) × (List ByteArray) × (List Th) × ByteArray × (List ByteArray) × (List (RT.C 2)))
def fl_check_scope_cond_97_0_0_0 (d : StD x_check_scope_cond_97_0_0_0) : X_check_scope_cond_97_0_0_0 := (d.2.1.1.1.1.1, d.2.1.1.1.1.2.1, d.2.1.1.1.1.2.2.1, d.2.1.1.1.1.2.2.2.1, d.2.1.1.1.1.2.2.2.2.1, d.2.1.1.1.1.2.2.2.2.2.1, d.2.1.1.1.1.2.2.2.2.2.2.1, d.2.2.1.1.1.1.1, d.2.2.1.1.1.1.2.1, d.2.2.1.1.1.1.2.2.1, d.2.2.1.1.1.1.2.2.2.1, d.2.2.1.1.1.1.2.2.2.2.1, d.2.2.1.1.1.1.2.2.2.2.2.1, d.2.2.1.1.1.1.2.2.2.2.2.2.1, d.2.2.2.1.1, d.2.2.2.1.2.1, d.2.2.2.1.2.2.1, d.2.2.2.1.2.2.2.1, d.2.2.2.2.1.1, d.2.2.2.2.1.2.1, d.2.2.2.2.1.2.2.1, d.2.2.2.2.1.2.2.2.1, d.2.2.2.2.1.2.2.2.2.1, d.2.2.2.2.1.2.2.2.2.2.1, d.2.2.2.2.1.2.2.2.2.2.2.1)
def un_check_scope_cond_97_0_0_0 (x : X_check_scope_cond_97_0_0_0) : StD x_check_scope_cond_97_0_0_0 := (((), ()), (((((x.1, x.2.1, x.2.2.1, x.2.2.2.1, x.2.2.2.2.1, x.2.2.2.2.2.1, x.2.2.2.2.2.2.1, ()), ()), ()), ()), ((((x.2.2.2.2.2.2.2.1, x.2.2.2.2.2.2.2.2.1, x.2.2.2.2.2.2.2.2.2.1, x.2.2.2.2.2.2.2.2.2.2.1, x.2.2.2.2.2.2.2.2.2.2.2.1, x.2.2.2.2.2.2.2.2.2.2.2.2.1, x.2.2.2.2.2.2.2.2.2.2.2.2.2.1, ()), ()), ()), ()), (x.2.2.2.2.2.2.2.2.2.2.2.2.2.2.1, x.2.2.2.2.2.2.2.2.2.2.2.2.2.2.2.1, x.2.2.2.2.2.2.2.2.2.2.2.2.2.2.2.2.1, x.2.2.2.2.2.2.2.2.2.2.2.2.2.2.2.2.2.1, ()), (x.2.2.2.2.2.2.2.2.2.2.2.2.2.2.2.2.2.2.1, x.2.2.2.2.2.2.2.2.2.2.2.2.2.2.2.2.2.2.2.1, x.2.2.2.2.2.2.2.2.2.2.2.2.2.2.2.2.2.2.2.2.1, x.2.2.2.2.2.2.2.2.2.2.2.2.2.2.2.2.2.2.2.2.2.1, x.2.2.2.2.2.2.2.2.2.2.2.2.2.2.2.2.2.2.2.2.2.2.1, x.2.2.2.2.2.2.2.2.2.2.2.2.2.2.2.2.2.2.2.2.2.2.2.1, x.2.2.2.2.2.2.2.2.2.2.2.2.2.2.2.2.2.2.2.2.2.2.2.2, ()), ()))
abbrev X_check_scope_cond_97_0_0_1 := (Int × (List Gb) × (List Gb) × (List ByteArray) × (List Th) × ByteArray × (List ByteArray) × (List (RT.C 2)) × (List Gb) × (List Gb) × (List ByteArray) × (List Th) × ByteArray × (List ByteArray) × (List (RT.C 2)) × Int × Int × (List (RT.C 0)) × (List (RT.C 1)) × (List Gb) × (List Gb) × (List ByteArray) × (List Th) × ByteArray × (List ByteArray) × (List (RT.C 2)))
def fl_check_scope_cond_97_0_0_1 (d : StD x_check_scope_cond_97_0_0_1) : X_check_scope_cond_97_0_0_1 := (d.1.1, d.2.1.1.1.1.1, d.2.1.1.1.1.2.1, d.2.1.1.1.1.2.2.1, d.2.1.1.1.1.2.2.2.1, d.2.1.1.1.1.2.2.2.2.1, d.2.1.1.1.1.2.2.2.2.2.1, d.2.1.1.1.1.2.2.2.2.2.2.1, d.2.2.1.1.1.1.1, d.2.2.1.1.1.1.2.1, d.2.2.1.1.1.1.2.2.1, d.2.2.1.1.1.1.2.2.2.1, d.2.2.1.1.1.1.2.2.2.2.1, d.2.2.1.1.1.1.2.2.2.2.2.1, d.2.2.1.1.1.1.2.2.2.2.2.2.1, d.2.2.2.1.1, d.2.2.2.1.2.1, d.2.2.2.1.2.2.1, d.2.2.2.1.2.2.2.1, d.2.2.2.2.1.1, d.2.2.2.2.1.2.1, d.2.2.2.2.1.2.2.1, d.2.2.2.2.1.2.2.2.1, d.2.2.2.2.1.2.2.2.2.1, d.2.2.2.2.1.2.2.2.2.2.1, d.2.2.2.2.1.2.2.2.2.2.2.1)
def un_check_scope_cond_97_0_0_1 (x : X_check_scope_cond_97_0_0_1) : StD x_check_scope_cond_97_0_0_1 := ((x.1, ()), (((((x.2.1, x.2.2.1, x.2.2.2.1, x.2.2.2.2.1, x.2.2.2.2.2.1, x.2.2.2.2.2.2.1, x.2.2.2.2.2.2.2.1, ()), ()), ()), ()), ((((x.2.2.2.2.2.2.2.2.1, x.2.2.2.2.2.2.2.2.2.1, x.2.2.2.2.2.2.2.2.2.2.1, x.2.2.2.2.2.2.2.2.2.2.2.1, x.2.2.2.2.2.2.2.2.2.2.2.2.1, x.2.2.2.2.2.2.2.2.2.2.2.2.2.1, x.2.2.2.2.2.2.2.2.2.2.2.2.2.2.1, ()), ()), ()), ()), (x.2.2.2.2.2.2.2.2.2.2.2.2.2.2.2.1, x.2.2.2.2.2.2.2.2.2.2.2.2.2.2.2.2.1, x.2.2.2.2.2.2.2.2.2.2.2.2.2.2.2.2.2.1, x.2.2.2.2.2.2.2.2.2.2.2.2.2.2.2.2.2.2.1, ()), (x.2.2.2.2.2.2.2.2.2.2.2.2.2.2.2.2.2.2.2.1, x.2.2.2.2.2.2.2.2.2.2.2.2.2.2.2.2.2.2.2.2.1, x.2.2.2.2.2.2.2.2.2.2.2.2.2.2.2.2.2.2.2.2.2.1, x.2.2.2.2.2.2.2.2.2.2.2.2.2.2.2.2.2.2.2.2.2.2.1, x.2.2.2.2.2.2.2.2.2.2.2.2.2.2.2.2.2.2.2.2.2.2.2.1, x.2.2.2.2.2.2.2.2.2.2.2.2.2.2.2.2.2.2.2.2.2.2.2.2.1, x.2.2.2.2.2.2.2.2.2.2.2.2.2.2.2.2.2.2.2.2.2.2.2.2.2, ()), ()))
noncomputable def st_check_scope_cond_97_0_0 (s0 : (List (RT.C 1))) (s7 : Int) (s8 : Int) (b3 : (List Gb)) (b3_1 : (List Gb)) (b3_2 : (List ByteArray)) (b3_3 : (List Th)) (b3_4 : ByteArray) (b3_5 : (List ByteArray)) (b3_6 : (List (RT.C 2))) (b2 : (List Gb)) (b2_1 : (List Gb)) (b2_2 : (List ByteArray)) (b2_3 : (List Th)) (b2_4 : ByteArray) (b2_5 : (List ByteArray)) (b2_6 : (List (RT.C 2))) (b1 : Int) (b1_1 : Int) (b1_2 : (List (RT.C 0))) (b1_3 : (List (RT.C 1))) (b0 : (List Gb)) (b0_1 : (List Gb)) (b0_2 : (List ByteArray)) (b0_3 : (List Th)) (b0_4 : ByteArray) (b0_5 : (List ByteArray)) (b0_6 : (List (RT.C 2))) : Option (((List (RT.C 1)) × Int × Int × (List Gb) × (List Gb) × (List ByteArray) × (List Th) × ByteArray × (List ByteArray) × (List (RT.C 2)) × (List Gb) × (List Gb) × (List ByteArray) × (List Th) × ByteArray × (List ByteArray) × (List (RT.C 2)) × Int × Int × (List (RT.C 0)) × (List (RT.C 1)) × (List Gb) × (List Gb) × (List ByteArray) × (List Th) × ByteArray × (List ByteArray) × (List (RT.C 2))) ⊕ (((List Gb) × (List Gb) × (List ByteArray) × (List Th) × ByteArray × (List ByteArray) × (List (RT.C 2)) × (List Gb) × (List Gb) × (List ByteArray) × (List Th) × ByteArray × (List ByteArray) × (List (RT.C 2)) × Int × Int × (List (RT.C 0)) × (List (RT.C 1)) × (List Gb) × (List Gb) × (List ByteArray) × (List Th) × ByteArray × (List ByteArray) × (List (RT.C 2))) ⊕ (Int × (List Gb) × (List Gb) × (List ByteArray) × (List Th) × ByteArray × (List ByteArray) × (List (RT.C 2)) × (List Gb) × (List Gb) × (List ByteArray) × (List Th) × ByteArray × (List ByteArray) × (List (RT.C 2)) × Int × Int × (List (RT.C 0)) × (List (RT.C 1)) × (List Gb) × (List Gb) × (List ByteArray) × (List Th) × ByteArray × (List ByteArray) × (List (RT.C 2))))) :=
  bif decide (s8 < s7) then
 bif decide (0 ≤ s8) then
 optC s0[s8.toNat]? none fun d32 ↦
 optC (Rec_check_scope_cond.K (((b3, b3_1, b3_2, b3_3), b3_4, b3_5, b3_6), uT1 d32, ())) none fun d33 ↦
 bif !d33 then some (Sum.inr (Sum.inr (s8, b3, b3_1, b3_2, b3_3, b3_4, b3_5, b3_6, b2, b2_1, b2_2, b2_3, b2_4, b2_5, b2_6, b1, b1_1, b1_2, b1_3, b0, b0_1, b0_2, b0_3, b0_4, b0_5, b0_6)))
 else
 some
 (Sum.inl
 (s0, s7, Go.IntKind.i64.wrap (s8 + 1), b3, b3_1, b3_2, b3_3, b3_4, b3_5, b3_6, b2, b2_1, b2_2, b2_3, b2_4, b2_5, b2_6, b1, b1_1, b1_2, b1_3, b0, b0_1, b0_2, b0_3, b0_4, b0_5, b0_6))
 else none
 else some (Sum.inr (Sum.inl (b3, b3_1, b3_2, b3_3, b3_4, b3_5, b3_6, b2, b2_1, b2_2, b2_3, b2_4, b2_5, b2_6, b1, b1_1, b1_2, b1_3, b0, b0_1, b0_2, b0_3, b0_4, b0_5, b0_6)))
noncomputable def sx_check_scope_cond_97_0_0 (x : X_check_scope_cond_97_0_0) : Option (X_check_scope_cond_97_0_0 ⊕ (X_check_scope_cond_97_0_0_0 ⊕ X_check_scope_cond_97_0_0_1)) := st_check_scope_cond_97_0_0 x.1 x.2.1 x.2.2.1 x.2.2.2.1 x.2.2.2.2.1 x.2.2.2.2.2.1 x.2.2.2.2.2.2.1 x.2.2.2.2.2.2.2.1 x.2.2.2.2.2.2.2.2.1 x.2.2.2.2.2.2.2.2.2.1 x.2.2.2.2.2.2.2.2.2.2.1 x.2.2.2.2.2.2.2.2.2.2.2.1 x.2.2.2.2.2.2.2.2.2.2.2.2.1 x.2.2.2.2.2.2.2.2.2.2.2.2.2.1 x.2.2.2.2.2.2.2.2.2.2.2.2.2.2.1 x.2.2.2.2.2.2.2.2.2.2.2.2.2.2.2.1 x.2.2.2.2.2.2.2.2.2.2.2.2.2.2.2.2.1 x.2.2.2.2.2.2.2.2.2.2.2.2.2.2.2.2.2.1 x.2.2.2.2.2.2.2.2.2.2.2.2.2.2.2.2.2.2.1 x.2.2.2.2.2.2.2.2.2.2.2.2.2.2.2.2.2.2.2.1 x.2.2.2.2.2.2.2.2.2.2.2.2.2.2.2.2.2.2.2.2.1 x.2.2.2.2.2.2.2.2.2.2.2.2.2.2.2.2.2.2.2.2.2.1 x.2.2.2.2.2.2.2.2.2.2.2.2.2.2.2.2.2.2.2.2.2.2.1 x.2.2.2.2.2.2.2.2.2.2.2.2.2.2.2.2.2.2.2.2.2.2.2.1 x.2.2.2.2.2.2.2.2.2.2.2.2.2.2.2.2.2.2.2.2.2.2.2.2.1 x.2.2.2.2.2.2.2.2.2.2.2.2.2.2.2.2.2.2.2.2.2.2.2.2.2.1 x.2.2.2.2.2.2.2.2.2.2.2.2.2.2.2.2.2.2.2.2.2.2.2.2.2.2.1 x.2.2.2.2.2.2.2.2.2.2.2.2.2.2.2.2.2.2.2.2.2.2.2.2.2.2.2
theorem rn_check_scope_cond_97_0_0 (x : X_check_scope_cond_97_0_0) : rdX cx_check_scope_cond_97_0 keeps 8 ⟨97, 19, keeps 97, 4⟩ 0 (bodyX 97 0) 4 kp_check_scope_cond_97_0 (sT s_check_scope_cond_97_0_0 (un_check_scope_cond_97_0_0 x)) (sH s_check_scope_cond_97_0_0 (un_check_scope_cond_97_0_0 x)) (rdO (fun T h => (rdS s_check_scope_cond_97_0_0 T h).map fl_check_scope_cond_97_0_0) (getOr (getE 2 x_check_scope_cond_97_0_0_0 fl_check_scope_cond_97_0_0_0) (getE 1 x_check_scope_cond_97_0_0_1 fl_check_scope_cond_97_0_0_1))) = sx_check_scope_cond_97_0_0 x := by kernel_rfl
noncomputable def L_check_scope_cond_97_0_0 (x : X_check_scope_cond_97_0_0) : Option (X_check_scope_cond_97_0_0_0 ⊕ X_check_scope_cond_97_0_0_1) := iterO (fun x => st_check_scope_cond_97_0_0 x.1 x.2.1 x.2.2.1 x.2.2.2.1 x.2.2.2.2.1 x.2.2.2.2.2.1 x.2.2.2.2.2.2.1 x.2.2.2.2.2.2.2.1 x.2.2.2.2.2.2.2.2.1 x.2.2.2.2.2.2.2.2.2.1 x.2.2.2.2.2.2.2.2.2.2.1 x.2.2.2.2.2.2.2.2.2.2.2.1 x.2.2.2.2.2.2.2.2.2.2.2.2.1 x.2.2.2.2.2.2.2.2.2.2.2.2.2.1 x.2.2.2.2.2.2.2.2.2.2.2.2.2.2.1 x.2.2.2.2.2.2.2.2.2.2.2.2.2.2.2.1 x.2.2.2.2.2.2.2.2.2.2.2.2.2.2.2.2.1 x.2.2.2.2.2.2.2.2.2.2.2.2.2.2.2.2.2.1 x.2.2.2.2.2.2.2.2.2.2.2.2.2.2.2.2.2.2.1 x.2.2.2.2.2.2.2.2.2.2.2.2.2.2.2.2.2.2.2.1 x.2.2.2.2.2.2.2.2.2.2.2.2.2.2.2.2.2.2.2.2.1 x.2.2.2.2.2.2.2.2.2.2.2.2.2.2.2.2.2.2.2.2.2.1 x.2.2.2.2.2.2.2.2.2.2.2.2.2.2.2.2.2.2.2.2.2.2.1 x.2.2.2.2.2.2.2.2.2.2.2.2.2.2.2.2.2.2.2.2.2.2.2.1 x.2.2.2.2.2.2.2.2.2.2.2.2.2.2.2.2.2.2.2.2.2.2.2.2.1 x.2.2.2.2.2.2.2.2.2.2.2.2.2.2.2.2.2.2.2.2.2.2.2.2.2.1 x.2.2.2.2.2.2.2.2.2.2.2.2.2.2.2.2.2.2.2.2.2.2.2.2.2.2.1 x.2.2.2.2.2.2.2.2.2.2.2.2.2.2.2.2.2.2.2.2.2.2.2.2.2.2.2) FUEL x
noncomputable def q_check_scope_cond_97_0 : Nat → Tm → Prog (Nat × Tm) := (varP 4 (fun T h => (rdS s_check_scope_cond_97_0_0 T h).map fl_check_scope_cond_97_0_0) L_check_scope_cond_97_0_0 (fun y => .alt y (altE 2 x_check_scope_cond_97_0_0_0 un_check_scope_cond_97_0_0_0) (altE 1 x_check_scope_cond_97_0_0_1 un_check_scope_cond_97_0_0_1)) (fun _ _ => .fail))
noncomputable def lc_check_scope_cond_97_0 : Lpc := ⟨97, 0, 19, (fun base T => .norm base (kp_check_scope_cond_97_0 0) T (q_check_scope_cond_97_0 base)), by kernel_rfl, by kernel_rfl, (loopU sp_check_scope_cond [lc_check_scope_cond_96_0] 40 (1048576 ^ 9) 8 (keep := kp_check_scope_cond_97_0) (q := q_check_scope_cond_97_0) (by kernel_rfl) (varX_ok (s := s_check_scope_cond_97_0_0) (un := un_check_scope_cond_97_0_0) (by rfl) (fun _ => rfl) (getOr_ok (getE_ok (s := x_check_scope_cond_97_0_0_0) (un := un_check_scope_cond_97_0_0_0) (by rfl) (fun _ => rfl)) (getE_ok (s := x_check_scope_cond_97_0_0_1) (un := un_check_scope_cond_97_0_0_1) (by rfl) (fun _ => rfl))) (step := sx_check_scope_cond_97_0_0) rn_check_scope_cond_97_0_0 (fun _ _ e => ⟨_, e⟩) (altOr_ok (altE_ok 2 x_check_scope_cond_97_0_0_0 un_check_scope_cond_97_0_0_0) (altE_ok 1 x_check_scope_cond_97_0_0_1 un_check_scope_cond_97_0_0_1)) (VarOk.fail _ _)))⟩
noncomputable def g_check_scope_cond (a0 : (Pg × Th)) (a1 : Cd) : Option Bool :=
  optC
 (L_check_scope_cond_96_0_0
 (a1.2.2.1, (↑(List.length a1.2.2.1) : Int), 0, a0.1.1, a0.1.2.1, a0.1.2.2.1, a0.1.2.2.2, a0.2.1, a0.2.2.1, a0.2.2.2, a1.1, a1.2.1,
 a1.2.2.1, a1.2.2.2, a0.1.1, a0.1.2.1, a0.1.2.2.1, a0.1.2.2.2, a0.2))
 none fun d6 ↦
 Sum.elim
 (fun e7 ↦
 optC
 (L_check_scope_cond_97_0_0
 (e7.2.2.2.2.2.2.2.2.2.2.1, (↑e7.2.2.2.2.2.2.2.2.2.2.1.length : Int), 0, e7.2.2.2.2.2.2.2.2.2.2.2.1,
 e7.2.2.2.2.2.2.2.2.2.2.2.2.1, e7.2.2.2.2.2.2.2.2.2.2.2.2.2.1, e7.2.2.2.2.2.2.2.2.2.2.2.2.2.2.1,
 e7.2.2.2.2.2.2.2.2.2.2.2.2.2.2.2.1, e7.2.2.2.2.2.2.2.2.2.2.2.2.2.2.2.2.1,
 e7.2.2.2.2.2.2.2.2.2.2.2.2.2.2.2.2.2, e7))
 none fun d8 ↦ Sum.elim (fun e9 ↦ some !decide (-1 ≥ 0)) (fun e9 ↦ some !decide (e9.1 ≥ 0)) d8)
 (fun e7 ↦
 bif !decide (e7.1 ≥ 0) then
 optC
 (L_check_scope_cond_97_0_0
 (e7.2.2.2.2.2.2.2.2.2.2.2.1, (↑e7.2.2.2.2.2.2.2.2.2.2.2.1.length : Int), 0, e7.2.2.2.2.2.2.2.2.2.2.2.2.1,
 e7.2.2.2.2.2.2.2.2.2.2.2.2.2.1, e7.2.2.2.2.2.2.2.2.2.2.2.2.2.2.1,
 e7.2.2.2.2.2.2.2.2.2.2.2.2.2.2.2.1, e7.2.2.2.2.2.2.2.2.2.2.2.2.2.2.2.2.1,
 e7.2.2.2.2.2.2.2.2.2.2.2.2.2.2.2.2.2.1, e7.2.2.2.2.2.2.2.2.2.2.2.2.2.2.2.2.2.2, e7.2))
 none fun d8 ↦ Sum.elim (fun e9 ↦ some !decide (-1 ≥ 0)) (fun e9 ↦ some !decide (e9.1 ≥ 0)) d8
 else some false)
 d6
theorem raw_check_scope_cond (a0 : (Pg × Th)) (a1 : Cd) : evGX1 (cxU sp_check_scope_cond [lc_check_scope_cond_96_0, lc_check_scope_cond_97_0] 40 (1048576 ^ 9)) keeps 8 41 ash_check_scope_cond (.dat .bool) ((a0, a1, ()) : ((Pg × Th) × (Cd × Unit))) = g_check_scope_cond a0 a1 := by kernel_rfl
noncomputable def GI_check_scope_cond (x : ((Pg × Th) × (Cd × Unit))) : Option Bool := g_check_scope_cond x.1 x.2.1
noncomputable def conI_check_scope_cond : List AV → Prog AV := conP true ash_check_scope_cond (.dat .bool) GI_check_scope_cond
theorem sndI_check_scope_cond : SoundA Tryd.prog 41 conI_check_scope_cond := conP_sound (evF1_sound (tabOk_of tab_ok) (cmpsOk_of tab_ok cmps_ok) mixed (inU sp_check_scope_cond [lc_check_scope_cond_96_0, lc_check_scope_cond_97_0] 40 (1048576 ^ 9)) (hspL sp_check_scope_cond) keeps 8 41) true (by rfl) (by rfl) (fun x r e => (evGX1_eq _ _ _ _ _ _ _).trans ((raw_check_scope_cond x.1 x.2.1).trans e)) (.inl rfl)
end
noncomputable def it_check_scope_cond : Nat → {K : ((Pg × Th) × (Cd × Unit)) → Option Bool // SoundA Tryd.prog 41 (conP true ash_check_scope_cond (.dat .bool) K)}
  | 0 => ⟨fun _ => none, conP_none⟩
  | k + 1 => letI : Rec_check_scope_cond := ⟨(it_check_scope_cond k).1, (it_check_scope_cond k).2⟩; ⟨GI_check_scope_cond, sndI_check_scope_cond⟩
noncomputable def G_check_scope_cond (x : ((Pg × Th) × (Cd × Unit))) : Option Bool := (it_check_scope_cond (SizeOf.sizeOf x + 1)).1 x
noncomputable def con_check_scope_cond : List AV → Prog AV := conP true ash_check_scope_cond (.dat .bool) G_check_scope_cond
theorem snd_check_scope_cond : SoundA Tryd.prog 41 con_check_scope_cond := conP_pick (sh := ash_check_scope_cond) (rs := .dat .bool) (n := fun x : ((Pg × Th) × (Cd × Unit)) => SizeOf.sizeOf x + 1) (F := fun k => (it_check_scope_cond k).1) (fun k => (it_check_scope_cond k).2)
end Go.Proofs.YtmjbedjnojcmfaaDoor.Ex

namespace Go.Proofs.YtmjbedjnojcmfaaDoor.Ex
set_option maxRecDepth 100000
set_option maxHeartbeats 2000000
set_option linter.unusedVariables false
set_option linter.unusedSimpArgs false
set_option linter.unusedSectionVars false
variable [Rec_check_scope_cond]
noncomputable def bd_check_scope_cond_96_0_0 (b2 : (List Gb)) (b2_1 : (List Gb)) (b2_2 : (List ByteArray)) (b2_3 : (List Th)) (b2_4 : ByteArray) (b2_5 : (List ByteArray)) (b2_6 : (List (RT.C 2))) (b1 : Int) (b1_1 : Int) (b1_2 : (List (RT.C 0))) (b1_3 : (List (RT.C 1))) (b0 : (List Gb)) (b0_1 : (List Gb)) (b0_2 : (List ByteArray)) (b0_3 : (List Th)) (b0_4 : ByteArray) (b0_5 : (List ByteArray)) (b0_6 : (List (RT.C 2))) (s0 : (List (RT.C 0))) (i : Nat)  (d : (RT.C 0)) : Option (Unit ⊕ (X_check_scope_cond_96_0_0_0 ⊕ X_check_scope_cond_96_0_0_1)) :=
  optC (G_check_scope_expr (((b2, b2_1, b2_2, b2_3), b2_4, b2_5, b2_6), uT0 d, ())) (none) fun d26 ↦
   bif !d26 then
   some (Sum.inr (Sum.inr ((i : Int), b2, b2_1, b2_2, b2_3, b2_4, b2_5, b2_6, b1, b1_1, b1_2, b1_3, b0, b0_1, b0_2, b0_3, b0_4, b0_5, b0_6)))
 else some (Sum.inl ())
noncomputable def fn_check_scope_cond_96_0_0 (b2 : (List Gb)) (b2_1 : (List Gb)) (b2_2 : (List ByteArray)) (b2_3 : (List Th)) (b2_4 : ByteArray) (b2_5 : (List ByteArray)) (b2_6 : (List (RT.C 2))) (b1 : Int) (b1_1 : Int) (b1_2 : (List (RT.C 0))) (b1_3 : (List (RT.C 1))) (b0 : (List Gb)) (b0_1 : (List Gb)) (b0_2 : (List ByteArray)) (b0_3 : (List Th)) (b0_4 : ByteArray) (b0_5 : (List ByteArray)) (b0_6 : (List (RT.C 2))) (s0 : (List (RT.C 0)))  : Option (X_check_scope_cond_96_0_0_0 ⊕ X_check_scope_cond_96_0_0_1) :=
  some (Sum.inl (b2, b2_1, b2_2, b2_3, b2_4, b2_5, b2_6, b1, b1_1, b1_2, b1_3, b0, b0_1, b0_2, b0_3, b0_4, b0_5, b0_6))
noncomputable abbrev rx_check_scope_cond_96_0_0 (b2 : (List Gb)) (b2_1 : (List Gb)) (b2_2 : (List ByteArray)) (b2_3 : (List Th)) (b2_4 : ByteArray) (b2_5 : (List ByteArray)) (b2_6 : (List (RT.C 2))) (b1 : Int) (b1_1 : Int) (b1_2 : (List (RT.C 0))) (b1_3 : (List (RT.C 1))) (b0 : (List Gb)) (b0_1 : (List Gb)) (b0_2 : (List ByteArray)) (b0_3 : (List Th)) (b0_4 : ByteArray) (b0_5 : (List ByteArray)) (b0_6 : (List (RT.C 2))) (s0 : (List (RT.C 0))) (i : Nat) (s : Unit) : X_check_scope_cond_96_0_0 := (s0, (s0.length : Int), (i : Int), b2, b2_1, b2_2, b2_3, b2_4, b2_5, b2_6, b1, b1_1, b1_2, b1_3, b0, b0_1, b0_2, b0_3, b0_4, b0_5, b0_6)
noncomputable def rv_check_scope_cond_96_0_0 (b2 : (List Gb)) (b2_1 : (List Gb)) (b2_2 : (List ByteArray)) (b2_3 : (List Th)) (b2_4 : ByteArray) (b2_5 : (List ByteArray)) (b2_6 : (List (RT.C 2))) (b1 : Int) (b1_1 : Int) (b1_2 : (List (RT.C 0))) (b1_3 : (List (RT.C 1))) (b0 : (List Gb)) (b0_1 : (List Gb)) (b0_2 : (List ByteArray)) (b0_3 : (List Th)) (b0_4 : ByteArray) (b0_5 : (List ByteArray)) (b0_6 : (List (RT.C 2))) (s0 : (List (RT.C 0))) (s : Unit) : Option (X_check_scope_cond_96_0_0_0 ⊕ X_check_scope_cond_96_0_0_1) := rangeO (fun i s d => bd_check_scope_cond_96_0_0 b2 b2_1 b2_2 b2_3 b2_4 b2_5 b2_6 b1 b1_1 b1_2 b1_3 b0 b0_1 b0_2 b0_3 b0_4 b0_5 b0_6 s0 i  d) (fun s => fn_check_scope_cond_96_0_0 b2 b2_1 b2_2 b2_3 b2_4 b2_5 b2_6 b1 b1_1 b1_2 b1_3 b0 b0_1 b0_2 b0_3 b0_4 b0_5 b0_6 s0 ) 0 s0 s
theorem rg_check_scope_cond_96_0_0 (b2 : (List Gb)) (b2_1 : (List Gb)) (b2_2 : (List ByteArray)) (b2_3 : (List Th)) (b2_4 : ByteArray) (b2_5 : (List ByteArray)) (b2_6 : (List (RT.C 2))) (b1 : Int) (b1_1 : Int) (b1_2 : (List (RT.C 0))) (b1_3 : (List (RT.C 1))) (b0 : (List Gb)) (b0_1 : (List Gb)) (b0_2 : (List ByteArray)) (b0_3 : (List Th)) (b0_4 : ByteArray) (b0_5 : (List ByteArray)) (b0_6 : (List (RT.C 2))) (s0 : (List (RT.C 0))) (s : Unit) (hl : s0.length < 9223372036854775807) : L_check_scope_cond_96_0_0 (s0, (s0.length : Int), 0, b2, b2_1, b2_2, b2_3, b2_4, b2_5, b2_6, b1, b1_1, b1_2, b1_3, b0, b0_1, b0_2, b0_3, b0_4, b0_5, b0_6) = rv_check_scope_cond_96_0_0 b2 b2_1 b2_2 b2_3 b2_4 b2_5 b2_6 b1 b1_1 b1_2 b1_3 b0 b0_1 b0_2 b0_3 b0_4 b0_5 b0_6 s0 s := by
  unfold L_check_scope_cond_96_0_0 rv_check_scope_cond_96_0_0
  refine iterO_range0 s0 (rx_check_scope_cond_96_0_0 b2 b2_1 b2_2 b2_3 b2_4 b2_5 b2_6 b1 b1_1 b1_2 b1_3 b0 b0_1 b0_2 b0_3 b0_4 b0_5 b0_6 s0) _ _ ?_ ?_ s (by unfold FUEL; omega)
  · intro i s d hi hd
    have e1 : decide ((i : Int) < (s0.length : Int)) = true := decide_eq_true (by omega)
    have e2 : decide (0 ≤ (i : Int)) = true := decide_eq_true (by omega)
    have e3 : Int.toNat (i : Int) = i := Int.toNat_natCast i
    have e4 := wrap_next hi (Nat.le_of_lt hl)
    show st_check_scope_cond_96_0_0 (s0) ((s0.length : Int)) ((i : Int)) (b2) (b2_1) (b2_2) (b2_3) (b2_4) (b2_5) (b2_6) (b1) (b1_1) (b1_2) (b1_3) (b0) (b0_1) (b0_2) (b0_3) (b0_4) (b0_5) (b0_6) = upd _ (bd_check_scope_cond_96_0_0 b2 b2_1 b2_2 b2_3 b2_4 b2_5 b2_6 b1 b1_1 b1_2 b1_3 b0 b0_1 b0_2 b0_3 b0_4 b0_5 b0_6 s0 i  d)
    unfold st_check_scope_cond_96_0_0 bd_check_scope_cond_96_0_0
    simp only [e1, e2, e3, e4, hd, cond_true, cond_false, optC_some, upd_cond, upd_optC, upd_elim, upd_inl, upd_inr, upd_none]
  · intro s
    have e1 : decide ((s0.length : Int) < (s0.length : Int)) = false := decide_eq_false (by omega)
    show st_check_scope_cond_96_0_0 (s0) ((s0.length : Int)) ((s0.length : Int)) (b2) (b2_1) (b2_2) (b2_3) (b2_4) (b2_5) (b2_6) (b1) (b1_1) (b1_2) (b1_3) (b0) (b0_1) (b0_2) (b0_3) (b0_4) (b0_5) (b0_6) = _
    unfold st_check_scope_cond_96_0_0 fn_check_scope_cond_96_0_0
    rw [e1]
    rfl
noncomputable def bd_check_scope_cond_97_0_0 (b3 : (List Gb)) (b3_1 : (List Gb)) (b3_2 : (List ByteArray)) (b3_3 : (List Th)) (b3_4 : ByteArray) (b3_5 : (List ByteArray)) (b3_6 : (List (RT.C 2))) (b2 : (List Gb)) (b2_1 : (List Gb)) (b2_2 : (List ByteArray)) (b2_3 : (List Th)) (b2_4 : ByteArray) (b2_5 : (List ByteArray)) (b2_6 : (List (RT.C 2))) (b1 : Int) (b1_1 : Int) (b1_2 : (List (RT.C 0))) (b1_3 : (List (RT.C 1))) (b0 : (List Gb)) (b0_1 : (List Gb)) (b0_2 : (List ByteArray)) (b0_3 : (List Th)) (b0_4 : ByteArray) (b0_5 : (List ByteArray)) (b0_6 : (List (RT.C 2))) (s0 : (List (RT.C 1))) (i : Nat)  (d : (RT.C 1)) : Option (Unit ⊕ (X_check_scope_cond_97_0_0_0 ⊕ X_check_scope_cond_97_0_0_1)) :=
  optC (Rec_check_scope_cond.K (((b3, b3_1, b3_2, b3_3), b3_4, b3_5, b3_6), uT1 d, ())) (none) fun d33 ↦
   bif !d33 then
   some (Sum.inr (Sum.inr ((i : Int), b3, b3_1, b3_2, b3_3, b3_4, b3_5, b3_6, b2, b2_1, b2_2, b2_3, b2_4, b2_5, b2_6, b1, b1_1, b1_2, b1_3, b0, b0_1, b0_2, b0_3, b0_4, b0_5, b0_6)))
 else some (Sum.inl ())
noncomputable def fn_check_scope_cond_97_0_0 (b3 : (List Gb)) (b3_1 : (List Gb)) (b3_2 : (List ByteArray)) (b3_3 : (List Th)) (b3_4 : ByteArray) (b3_5 : (List ByteArray)) (b3_6 : (List (RT.C 2))) (b2 : (List Gb)) (b2_1 : (List Gb)) (b2_2 : (List ByteArray)) (b2_3 : (List Th)) (b2_4 : ByteArray) (b2_5 : (List ByteArray)) (b2_6 : (List (RT.C 2))) (b1 : Int) (b1_1 : Int) (b1_2 : (List (RT.C 0))) (b1_3 : (List (RT.C 1))) (b0 : (List Gb)) (b0_1 : (List Gb)) (b0_2 : (List ByteArray)) (b0_3 : (List Th)) (b0_4 : ByteArray) (b0_5 : (List ByteArray)) (b0_6 : (List (RT.C 2))) (s0 : (List (RT.C 1)))  : Option (X_check_scope_cond_97_0_0_0 ⊕ X_check_scope_cond_97_0_0_1) :=
  some (Sum.inl (b3, b3_1, b3_2, b3_3, b3_4, b3_5, b3_6, b2, b2_1, b2_2, b2_3, b2_4, b2_5, b2_6, b1, b1_1, b1_2, b1_3, b0, b0_1, b0_2, b0_3, b0_4, b0_5, b0_6))
noncomputable abbrev rx_check_scope_cond_97_0_0 (b3 : (List Gb)) (b3_1 : (List Gb)) (b3_2 : (List ByteArray)) (b3_3 : (List Th)) (b3_4 : ByteArray) (b3_5 : (List ByteArray)) (b3_6 : (List (RT.C 2))) (b2 : (List Gb)) (b2_1 : (List Gb)) (b2_2 : (List ByteArray)) (b2_3 : (List Th)) (b2_4 : ByteArray) (b2_5 : (List ByteArray)) (b2_6 : (List (RT.C 2))) (b1 : Int) (b1_1 : Int) (b1_2 : (List (RT.C 0))) (b1_3 : (List (RT.C 1))) (b0 : (List Gb)) (b0_1 : (List Gb)) (b0_2 : (List ByteArray)) (b0_3 : (List Th)) (b0_4 : ByteArray) (b0_5 : (List ByteArray)) (b0_6 : (List (RT.C 2))) (s0 : (List (RT.C 1))) (i : Nat) (s : Unit) : X_check_scope_cond_97_0_0 := (s0, (s0.length : Int), (i : Int), b3, b3_1, b3_2, b3_3, b3_4, b3_5, b3_6, b2, b2_1, b2_2, b2_3, b2_4, b2_5, b2_6, b1, b1_1, b1_2, b1_3, b0, b0_1, b0_2, b0_3, b0_4, b0_5, b0_6)
noncomputable def rv_check_scope_cond_97_0_0 (b3 : (List Gb)) (b3_1 : (List Gb)) (b3_2 : (List ByteArray)) (b3_3 : (List Th)) (b3_4 : ByteArray) (b3_5 : (List ByteArray)) (b3_6 : (List (RT.C 2))) (b2 : (List Gb)) (b2_1 : (List Gb)) (b2_2 : (List ByteArray)) (b2_3 : (List Th)) (b2_4 : ByteArray) (b2_5 : (List ByteArray)) (b2_6 : (List (RT.C 2))) (b1 : Int) (b1_1 : Int) (b1_2 : (List (RT.C 0))) (b1_3 : (List (RT.C 1))) (b0 : (List Gb)) (b0_1 : (List Gb)) (b0_2 : (List ByteArray)) (b0_3 : (List Th)) (b0_4 : ByteArray) (b0_5 : (List ByteArray)) (b0_6 : (List (RT.C 2))) (s0 : (List (RT.C 1))) (s : Unit) : Option (X_check_scope_cond_97_0_0_0 ⊕ X_check_scope_cond_97_0_0_1) := rangeO (fun i s d => bd_check_scope_cond_97_0_0 b3 b3_1 b3_2 b3_3 b3_4 b3_5 b3_6 b2 b2_1 b2_2 b2_3 b2_4 b2_5 b2_6 b1 b1_1 b1_2 b1_3 b0 b0_1 b0_2 b0_3 b0_4 b0_5 b0_6 s0 i  d) (fun s => fn_check_scope_cond_97_0_0 b3 b3_1 b3_2 b3_3 b3_4 b3_5 b3_6 b2 b2_1 b2_2 b2_3 b2_4 b2_5 b2_6 b1 b1_1 b1_2 b1_3 b0 b0_1 b0_2 b0_3 b0_4 b0_5 b0_6 s0 ) 0 s0 s
theorem rg_check_scope_cond_97_0_0 (b3 : (List Gb)) (b3_1 : (List Gb)) (b3_2 : (List ByteArray)) (b3_3 : (List Th)) (b3_4 : ByteArray) (b3_5 : (List ByteArray)) (b3_6 : (List (RT.C 2))) (b2 : (List Gb)) (b2_1 : (List Gb)) (b2_2 : (List ByteArray)) (b2_3 : (List Th)) (b2_4 : ByteArray) (b2_5 : (List ByteArray)) (b2_6 : (List (RT.C 2))) (b1 : Int) (b1_1 : Int) (b1_2 : (List (RT.C 0))) (b1_3 : (List (RT.C 1))) (b0 : (List Gb)) (b0_1 : (List Gb)) (b0_2 : (List ByteArray)) (b0_3 : (List Th)) (b0_4 : ByteArray) (b0_5 : (List ByteArray)) (b0_6 : (List (RT.C 2))) (s0 : (List (RT.C 1))) (s : Unit) (hl : s0.length < 9223372036854775807) : L_check_scope_cond_97_0_0 (s0, (s0.length : Int), 0, b3, b3_1, b3_2, b3_3, b3_4, b3_5, b3_6, b2, b2_1, b2_2, b2_3, b2_4, b2_5, b2_6, b1, b1_1, b1_2, b1_3, b0, b0_1, b0_2, b0_3, b0_4, b0_5, b0_6) = rv_check_scope_cond_97_0_0 b3 b3_1 b3_2 b3_3 b3_4 b3_5 b3_6 b2 b2_1 b2_2 b2_3 b2_4 b2_5 b2_6 b1 b1_1 b1_2 b1_3 b0 b0_1 b0_2 b0_3 b0_4 b0_5 b0_6 s0 s := by
  unfold L_check_scope_cond_97_0_0 rv_check_scope_cond_97_0_0
  refine iterO_range0 s0 (rx_check_scope_cond_97_0_0 b3 b3_1 b3_2 b3_3 b3_4 b3_5 b3_6 b2 b2_1 b2_2 b2_3 b2_4 b2_5 b2_6 b1 b1_1 b1_2 b1_3 b0 b0_1 b0_2 b0_3 b0_4 b0_5 b0_6 s0) _ _ ?_ ?_ s (by unfold FUEL; omega)
  · intro i s d hi hd
    have e1 : decide ((i : Int) < (s0.length : Int)) = true := decide_eq_true (by omega)
    have e2 : decide (0 ≤ (i : Int)) = true := decide_eq_true (by omega)
    have e3 : Int.toNat (i : Int) = i := Int.toNat_natCast i
    have e4 := wrap_next hi (Nat.le_of_lt hl)
    show st_check_scope_cond_97_0_0 (s0) ((s0.length : Int)) ((i : Int)) (b3) (b3_1) (b3_2) (b3_3) (b3_4) (b3_5) (b3_6) (b2) (b2_1) (b2_2) (b2_3) (b2_4) (b2_5) (b2_6) (b1) (b1_1) (b1_2) (b1_3) (b0) (b0_1) (b0_2) (b0_3) (b0_4) (b0_5) (b0_6) = upd _ (bd_check_scope_cond_97_0_0 b3 b3_1 b3_2 b3_3 b3_4 b3_5 b3_6 b2 b2_1 b2_2 b2_3 b2_4 b2_5 b2_6 b1 b1_1 b1_2 b1_3 b0 b0_1 b0_2 b0_3 b0_4 b0_5 b0_6 s0 i  d)
    unfold st_check_scope_cond_97_0_0 bd_check_scope_cond_97_0_0
    simp only [e1, e2, e3, e4, hd, cond_true, cond_false, optC_some, upd_cond, upd_optC, upd_elim, upd_inl, upd_inr, upd_none]
  · intro s
    have e1 : decide ((s0.length : Int) < (s0.length : Int)) = false := decide_eq_false (by omega)
    show st_check_scope_cond_97_0_0 (s0) ((s0.length : Int)) ((s0.length : Int)) (b3) (b3_1) (b3_2) (b3_3) (b3_4) (b3_5) (b3_6) (b2) (b2_1) (b2_2) (b2_3) (b2_4) (b2_5) (b2_6) (b1) (b1_1) (b1_2) (b1_3) (b0) (b0_1) (b0_2) (b0_3) (b0_4) (b0_5) (b0_6) = _
    unfold st_check_scope_cond_97_0_0 fn_check_scope_cond_97_0_0
    rw [e1]
    rfl
end Go.Proofs.YtmjbedjnojcmfaaDoor.Ex

namespace Go.Proofs.YtmjbedjnojcmfaaDoor.Ex
open Go.Proofs Go.Proofs.YtmjbedjnojcmfaaDoor
set_option maxRecDepth 100000
set_option maxHeartbeats 2000000
set_option linter.unusedVariables false
set_option linter.unusedSimpArgs false
def ash_ref7_usesExpr : List Sh := [.dat tPg, .dat tTh, .dat tX]
def kp_ref7_usesExpr_49_0 : Nat → List Nat := fun c => bif c.beq 0 then [3, 4, 5, 7] else [6]
class Rec_ref7_usesExpr where
  K : (Pg × (Th × (Xp × Unit))) → Option Bool
  s : SoundA Tryd.prog 49 (conP true ash_ref7_usesExpr (.dat .bool) K)
section
variable [Rec_ref7_usesExpr]
noncomputable def sp_ref7_usesExpr : List Con := [⟨47, con_ref7_Local, snd_ref7_Local⟩, ⟨48, con_ref7_Global, snd_ref7_Global⟩, ⟨50, con_ref7_Array, snd_ref7_Array⟩, ⟨49, (conP true ash_ref7_usesExpr (.dat .bool) Rec_ref7_usesExpr.K), Rec_ref7_usesExpr.s⟩]
def s_ref7_usesExpr_49_0_0 : StS := ⟨[(3, .ptr 0 0), (4, .ptr 1 0), (5, .ptr 2 0), (7, .int .i64)], [(0, .box [.sl tGb, .sl tGb, .sl .str, .sl tTh]), (1, .box [.str, .sl .str, .sl (.mu 2)]), (2, .box [.int .i64, .int .i64, .int .i64, .str, .sl (.mu 0)])], 3⟩
def x_ref7_usesExpr_49_0_0_0 : StS := ⟨[(6, .undef)], [], 0⟩
def x_ref7_usesExpr_49_0_0_1 : StS := ⟨[(6, .bool)], [], 0⟩
abbrev X_ref7_usesExpr_49_0_0 := (Int × (List Gb) × (List Gb) × (List ByteArray) × (List Th) × ByteArray × (List ByteArray) × (List (RT.C 2)) × Int × Int × Int × ByteArray × (List (RT.C 0)))
def fl_ref7_usesExpr_49_0_0 (d : StD s_ref7_usesExpr_49_0_0) : X_ref7_usesExpr_49_0_0 := (d.1.2.2.2.1, d.2.1.1, d.2.1.2.1, d.2.1.2.2.1, d.2.1.2.2.2.1, d.2.2.1.1, d.2.2.1.2.1, d.2.2.1.2.2.1, d.2.2.2.1.1, d.2.2.2.1.2.1, d.2.2.2.1.2.2.1, d.2.2.2.1.2.2.2.1, d.2.2.2.1.2.2.2.2.1)
def un_ref7_usesExpr_49_0_0 (x : X_ref7_usesExpr_49_0_0) : StD s_ref7_usesExpr_49_0_0 := (((), (), (), x.1, ()), ((x.2.1, x.2.2.1, x.2.2.2.1, x.2.2.2.2.1, ()), (x.2.2.2.2.2.1, x.2.2.2.2.2.2.1, x.2.2.2.2.2.2.2.1, ()), (x.2.2.2.2.2.2.2.2.1, x.2.2.2.2.2.2.2.2.2.1, x.2.2.2.2.2.2.2.2.2.2.1, x.2.2.2.2.2.2.2.2.2.2.2.1, x.2.2.2.2.2.2.2.2.2.2.2.2, ()), ()))
abbrev X_ref7_usesExpr_49_0_0_0 := Unit
def fl_ref7_usesExpr_49_0_0_0 (d : StD x_ref7_usesExpr_49_0_0_0) : X_ref7_usesExpr_49_0_0_0 := ()
def un_ref7_usesExpr_49_0_0_0 (x : X_ref7_usesExpr_49_0_0_0) : StD x_ref7_usesExpr_49_0_0_0 := (((), ()), ())
abbrev X_ref7_usesExpr_49_0_0_1 := Bool
def fl_ref7_usesExpr_49_0_0_1 (d : StD x_ref7_usesExpr_49_0_0_1) : X_ref7_usesExpr_49_0_0_1 := (d.1.1)
def un_ref7_usesExpr_49_0_0_1 (x : X_ref7_usesExpr_49_0_0_1) : StD x_ref7_usesExpr_49_0_0_1 := ((x, ()), ())
noncomputable def st_ref7_usesExpr_49_0_0 (s7 : Int) (b0 : (List Gb)) (b0_1 : (List Gb)) (b0_2 : (List ByteArray)) (b0_3 : (List Th)) (b1 : ByteArray) (b1_1 : (List ByteArray)) (b1_2 : (List (RT.C 2))) (b2 : Int) (b2_1 : Int) (b2_2 : Int) (b2_3 : ByteArray) (b2_4 : (List (RT.C 0))) : Option ((Int × (List Gb) × (List Gb) × (List ByteArray) × (List Th) × ByteArray × (List ByteArray) × (List (RT.C 2)) × Int × Int × Int × ByteArray × (List (RT.C 0))) ⊕ (Unit ⊕ Bool)) :=
  bif decide (s7 < (↑b2_4.length : Int)) then
 bif decide (0 ≤ s7) then
 optC b2_4[s7.toNat]? none fun d16 ↦
 optC (Rec_ref7_usesExpr.K ((b0, b0_1, b0_2, b0_3), (b1, b1_1, b1_2), uT0 d16, ())) none fun d17 ↦
 bif !d17 then some (Sum.inr (Sum.inr false)) else some (Sum.inl (Go.IntKind.i64.wrap (s7 + 1), b0, b0_1, b0_2, b0_3, b1, b1_1, b1_2, b2, b2_1, b2_2, b2_3, b2_4))
 else none
 else some (Sum.inr (Sum.inl PUnit.unit))
noncomputable def sx_ref7_usesExpr_49_0_0 (x : X_ref7_usesExpr_49_0_0) : Option (X_ref7_usesExpr_49_0_0 ⊕ (X_ref7_usesExpr_49_0_0_0 ⊕ X_ref7_usesExpr_49_0_0_1)) := st_ref7_usesExpr_49_0_0 x.1 x.2.1 x.2.2.1 x.2.2.2.1 x.2.2.2.2.1 x.2.2.2.2.2.1 x.2.2.2.2.2.2.1 x.2.2.2.2.2.2.2.1 x.2.2.2.2.2.2.2.2.1 x.2.2.2.2.2.2.2.2.2.1 x.2.2.2.2.2.2.2.2.2.2.1 x.2.2.2.2.2.2.2.2.2.2.2.1 x.2.2.2.2.2.2.2.2.2.2.2.2
theorem rn_ref7_usesExpr_49_0_0 (x : X_ref7_usesExpr_49_0_0) : rdX (cxU sp_ref7_usesExpr [] 40 (1048576 ^ 9)) keeps 8 ⟨49, 51, keeps 49, 0⟩ 0 (bodyX 49 0) 0 kp_ref7_usesExpr_49_0 (sT s_ref7_usesExpr_49_0_0 (un_ref7_usesExpr_49_0_0 x)) (sH s_ref7_usesExpr_49_0_0 (un_ref7_usesExpr_49_0_0 x)) (rdO (fun T h => (rdS s_ref7_usesExpr_49_0_0 T h).map fl_ref7_usesExpr_49_0_0) (getOr (getE 2 x_ref7_usesExpr_49_0_0_0 fl_ref7_usesExpr_49_0_0_0) (getE 1 x_ref7_usesExpr_49_0_0_1 fl_ref7_usesExpr_49_0_0_1))) = sx_ref7_usesExpr_49_0_0 x := by kernel_rfl
noncomputable def L_ref7_usesExpr_49_0_0 (x : X_ref7_usesExpr_49_0_0) : Option (X_ref7_usesExpr_49_0_0_0 ⊕ X_ref7_usesExpr_49_0_0_1) := iterO (fun x => st_ref7_usesExpr_49_0_0 x.1 x.2.1 x.2.2.1 x.2.2.2.1 x.2.2.2.2.1 x.2.2.2.2.2.1 x.2.2.2.2.2.2.1 x.2.2.2.2.2.2.2.1 x.2.2.2.2.2.2.2.2.1 x.2.2.2.2.2.2.2.2.2.1 x.2.2.2.2.2.2.2.2.2.2.1 x.2.2.2.2.2.2.2.2.2.2.2.1 x.2.2.2.2.2.2.2.2.2.2.2.2) FUEL x
noncomputable def q_ref7_usesExpr_49_0 : Nat → Tm → Prog (Nat × Tm) := (varP 0 (fun T h => (rdS s_ref7_usesExpr_49_0_0 T h).map fl_ref7_usesExpr_49_0_0) L_ref7_usesExpr_49_0_0 (fun y => .alt y (altE 2 x_ref7_usesExpr_49_0_0_0 un_ref7_usesExpr_49_0_0_0) (altE 1 x_ref7_usesExpr_49_0_0_1 un_ref7_usesExpr_49_0_0_1)) (fun _ _ => .fail))
noncomputable def lc_ref7_usesExpr_49_0 : Lpc := ⟨49, 0, 51, (fun base T => .norm base (kp_ref7_usesExpr_49_0 0) T (q_ref7_usesExpr_49_0 base)), by kernel_rfl, by kernel_rfl, (loopU sp_ref7_usesExpr [] 40 (1048576 ^ 9) 8 (keep := kp_ref7_usesExpr_49_0) (q := q_ref7_usesExpr_49_0) (by kernel_rfl) (varX_ok (s := s_ref7_usesExpr_49_0_0) (un := un_ref7_usesExpr_49_0_0) (by rfl) (fun _ => rfl) (getOr_ok (getE_ok (s := x_ref7_usesExpr_49_0_0_0) (un := un_ref7_usesExpr_49_0_0_0) (by rfl) (fun _ => rfl)) (getE_ok (s := x_ref7_usesExpr_49_0_0_1) (un := un_ref7_usesExpr_49_0_0_1) (by rfl) (fun _ => rfl))) (step := sx_ref7_usesExpr_49_0_0) rn_ref7_usesExpr_49_0_0 (fun _ _ e => ⟨_, e⟩) (altOr_ok (altE_ok 2 x_ref7_usesExpr_49_0_0_0 un_ref7_usesExpr_49_0_0_0) (altE_ok 1 x_ref7_usesExpr_49_0_0_1 un_ref7_usesExpr_49_0_0_1)) (VarOk.fail _ _)))⟩
noncomputable def g_ref7_usesExpr (a0 : Pg) (a1 : Th) (a2 : Xp) : Option Bool :=
  bif a2.1 == 2 then
 optC (G_ref7_Local (a1, a2.2.2.2.1, ())) none fun d6 ↦
 bif decide (d6 < 0) then
 optC (G_ref7_Global (a0, a2.2.2.2.1, ())) none fun d7 ↦
 bif decide (d7 < 0) then some false
 else
 bif a2.1 == 3 then
 optC (G_ref7_Array (a0, a2.2.2.2.1, ())) none fun d8 ↦
 bif decide (d8 < 0) then some false
 else
 optC (L_ref7_usesExpr_49_0_0 (0, a0.1, a0.2.1, a0.2.2.1, a0.2.2.2, a1.1, a1.2.1, a1.2.2, a2)) none fun d9 ↦
 Sum.elim (fun e10 ↦ some true) (fun e10 ↦ some e10) d9
 else
 optC (L_ref7_usesExpr_49_0_0 (0, a0.1, a0.2.1, a0.2.2.1, a0.2.2.2, a1.1, a1.2.1, a1.2.2, a2)) none fun d8 ↦
 Sum.elim (fun e9 ↦ some true) (fun e9 ↦ some e9) d8
 else
 bif a2.1 == 3 then
 optC (G_ref7_Array (a0, a2.2.2.2.1, ())) none fun d7 ↦
 bif decide (d7 < 0) then some false
 else
 optC (L_ref7_usesExpr_49_0_0 (0, a0.1, a0.2.1, a0.2.2.1, a0.2.2.2, a1.1, a1.2.1, a1.2.2, a2)) none fun d8 ↦
 Sum.elim (fun e9 ↦ some true) (fun e9 ↦ some e9) d8
 else
 optC (L_ref7_usesExpr_49_0_0 (0, a0.1, a0.2.1, a0.2.2.1, a0.2.2.2, a1.1, a1.2.1, a1.2.2, a2)) none fun d7 ↦
 Sum.elim (fun e8 ↦ some true) (fun e8 ↦ some e8) d7
 else
 bif a2.1 == 3 then
 optC (G_ref7_Array (a0, a2.2.2.2.1, ())) none fun d6 ↦
 bif decide (d6 < 0) then some false
 else
 optC (L_ref7_usesExpr_49_0_0 (0, a0.1, a0.2.1, a0.2.2.1, a0.2.2.2, a1.1, a1.2.1, a1.2.2, a2)) none fun d7 ↦
 Sum.elim (fun e8 ↦ some true) (fun e8 ↦ some e8) d7
 else
 optC (L_ref7_usesExpr_49_0_0 (0, a0.1, a0.2.1, a0.2.2.1, a0.2.2.2, a1.1, a1.2.1, a1.2.2, a2)) none fun d6 ↦
 Sum.elim (fun e7 ↦ some true) (fun e7 ↦ some e7) d6
theorem raw_ref7_usesExpr (a0 : Pg) (a1 : Th) (a2 : Xp) : evGX1 (cxU sp_ref7_usesExpr [lc_ref7_usesExpr_49_0] 40 (1048576 ^ 9)) keeps 8 49 ash_ref7_usesExpr (.dat .bool) ((a0, a1, a2, ()) : (Pg × (Th × (Xp × Unit)))) = g_ref7_usesExpr a0 a1 a2 := by kernel_rfl
noncomputable def GI_ref7_usesExpr (x : (Pg × (Th × (Xp × Unit)))) : Option Bool := g_ref7_usesExpr x.1 x.2.1 x.2.2.1
noncomputable def conI_ref7_usesExpr : List AV → Prog AV := conP true ash_ref7_usesExpr (.dat .bool) GI_ref7_usesExpr
theorem sndI_ref7_usesExpr : SoundA Tryd.prog 49 conI_ref7_usesExpr := conP_sound (evF1_sound (tabOk_of tab_ok) (cmpsOk_of tab_ok cmps_ok) mixed (inU sp_ref7_usesExpr [lc_ref7_usesExpr_49_0] 40 (1048576 ^ 9)) (hspL sp_ref7_usesExpr) keeps 8 49) true (by rfl) (by rfl) (fun x r e => (evGX1_eq _ _ _ _ _ _ _).trans ((raw_ref7_usesExpr x.1 x.2.1 x.2.2.1).trans e)) (.inl rfl)
end
noncomputable def it_ref7_usesExpr : Nat → {K : (Pg × (Th × (Xp × Unit))) → Option Bool // SoundA Tryd.prog 49 (conP true ash_ref7_usesExpr (.dat .bool) K)}
  | 0 => ⟨fun _ => none, conP_none⟩
  | k + 1 => letI : Rec_ref7_usesExpr := ⟨(it_ref7_usesExpr k).1, (it_ref7_usesExpr k).2⟩; ⟨GI_ref7_usesExpr, sndI_ref7_usesExpr⟩
noncomputable def G_ref7_usesExpr (x : (Pg × (Th × (Xp × Unit)))) : Option Bool := (it_ref7_usesExpr (SizeOf.sizeOf x + 1)).1 x
noncomputable def con_ref7_usesExpr : List AV → Prog AV := conP true ash_ref7_usesExpr (.dat .bool) G_ref7_usesExpr
theorem snd_ref7_usesExpr : SoundA Tryd.prog 49 con_ref7_usesExpr := conP_pick (sh := ash_ref7_usesExpr) (rs := .dat .bool) (n := fun x : (Pg × (Th × (Xp × Unit))) => SizeOf.sizeOf x + 1) (F := fun k => (it_ref7_usesExpr k).1) (fun k => (it_ref7_usesExpr k).2)
end Go.Proofs.YtmjbedjnojcmfaaDoor.Ex

namespace Go.Proofs.YtmjbedjnojcmfaaDoor.Ex
set_option maxRecDepth 100000
set_option maxHeartbeats 2000000
set_option linter.unusedVariables false
set_option linter.unusedSimpArgs false
set_option linter.unusedSectionVars false
variable [Rec_ref7_usesExpr]
noncomputable def bd_ref7_usesExpr_49_0_0 (b0 : (List Gb)) (b0_1 : (List Gb)) (b0_2 : (List ByteArray)) (b0_3 : (List Th)) (b1 : ByteArray) (b1_1 : (List ByteArray)) (b1_2 : (List (RT.C 2))) (b2 : Int) (b2_1 : Int) (b2_2 : Int) (b2_3 : ByteArray) (b2_4 : (List (RT.C 0))) (i : Nat)  (d : (RT.C 0)) : Option (Unit ⊕ (X_ref7_usesExpr_49_0_0_0 ⊕ X_ref7_usesExpr_49_0_0_1)) :=
  optC (Rec_ref7_usesExpr.K ((b0, b0_1, b0_2, b0_3), (b1, b1_1, b1_2), uT0 d, ())) (none) fun d17 ↦
   bif !d17 then
   some (Sum.inr (Sum.inr false))
 else some (Sum.inl ())
noncomputable def fn_ref7_usesExpr_49_0_0 (b0 : (List Gb)) (b0_1 : (List Gb)) (b0_2 : (List ByteArray)) (b0_3 : (List Th)) (b1 : ByteArray) (b1_1 : (List ByteArray)) (b1_2 : (List (RT.C 2))) (b2 : Int) (b2_1 : Int) (b2_2 : Int) (b2_3 : ByteArray) (b2_4 : (List (RT.C 0)))  : Option (X_ref7_usesExpr_49_0_0_0 ⊕ X_ref7_usesExpr_49_0_0_1) :=
  some (Sum.inl PUnit.unit)
noncomputable abbrev rx_ref7_usesExpr_49_0_0 (b0 : (List Gb)) (b0_1 : (List Gb)) (b0_2 : (List ByteArray)) (b0_3 : (List Th)) (b1 : ByteArray) (b1_1 : (List ByteArray)) (b1_2 : (List (RT.C 2))) (b2 : Int) (b2_1 : Int) (b2_2 : Int) (b2_3 : ByteArray) (b2_4 : (List (RT.C 0))) (i : Nat) (s : Unit) : X_ref7_usesExpr_49_0_0 := ((i : Int), b0, b0_1, b0_2, b0_3, b1, b1_1, b1_2, b2, b2_1, b2_2, b2_3, b2_4)
noncomputable def rv_ref7_usesExpr_49_0_0 (b0 : (List Gb)) (b0_1 : (List Gb)) (b0_2 : (List ByteArray)) (b0_3 : (List Th)) (b1 : ByteArray) (b1_1 : (List ByteArray)) (b1_2 : (List (RT.C 2))) (b2 : Int) (b2_1 : Int) (b2_2 : Int) (b2_3 : ByteArray) (b2_4 : (List (RT.C 0))) (s : Unit) : Option (X_ref7_usesExpr_49_0_0_0 ⊕ X_ref7_usesExpr_49_0_0_1) := rangeO (fun i s d => bd_ref7_usesExpr_49_0_0 b0 b0_1 b0_2 b0_3 b1 b1_1 b1_2 b2 b2_1 b2_2 b2_3 b2_4 i  d) (fun s => fn_ref7_usesExpr_49_0_0 b0 b0_1 b0_2 b0_3 b1 b1_1 b1_2 b2 b2_1 b2_2 b2_3 b2_4 ) 0 b2_4 s
theorem rg_ref7_usesExpr_49_0_0 (b0 : (List Gb)) (b0_1 : (List Gb)) (b0_2 : (List ByteArray)) (b0_3 : (List Th)) (b1 : ByteArray) (b1_1 : (List ByteArray)) (b1_2 : (List (RT.C 2))) (b2 : Int) (b2_1 : Int) (b2_2 : Int) (b2_3 : ByteArray) (b2_4 : (List (RT.C 0))) (s : Unit) (hl : b2_4.length < 9223372036854775807) : L_ref7_usesExpr_49_0_0 (0, b0, b0_1, b0_2, b0_3, b1, b1_1, b1_2, b2, b2_1, b2_2, b2_3, b2_4) = rv_ref7_usesExpr_49_0_0 b0 b0_1 b0_2 b0_3 b1 b1_1 b1_2 b2 b2_1 b2_2 b2_3 b2_4 s := by
  unfold L_ref7_usesExpr_49_0_0 rv_ref7_usesExpr_49_0_0
  refine iterO_range0 b2_4 (rx_ref7_usesExpr_49_0_0 b0 b0_1 b0_2 b0_3 b1 b1_1 b1_2 b2 b2_1 b2_2 b2_3 b2_4) _ _ ?_ ?_ s (by unfold FUEL; omega)
  · intro i s d hi hd
    have e1 : decide ((i : Int) < (b2_4.length : Int)) = true := decide_eq_true (by omega)
    have e2 : decide (0 ≤ (i : Int)) = true := decide_eq_true (by omega)
    have e3 : Int.toNat (i : Int) = i := Int.toNat_natCast i
    have e4 := wrap_next hi (Nat.le_of_lt hl)
    show st_ref7_usesExpr_49_0_0 ((i : Int)) (b0) (b0_1) (b0_2) (b0_3) (b1) (b1_1) (b1_2) (b2) (b2_1) (b2_2) (b2_3) (b2_4) = upd _ (bd_ref7_usesExpr_49_0_0 b0 b0_1 b0_2 b0_3 b1 b1_1 b1_2 b2 b2_1 b2_2 b2_3 b2_4 i  d)
    unfold st_ref7_usesExpr_49_0_0 bd_ref7_usesExpr_49_0_0
    simp only [e1, e2, e3, e4, hd, cond_true, cond_false, optC_some, upd_cond, upd_optC, upd_elim, upd_inl, upd_inr, upd_none]
  · intro s
    have e1 : decide ((b2_4.length : Int) < (b2_4.length : Int)) = false := decide_eq_false (by omega)
    show st_ref7_usesExpr_49_0_0 ((b2_4.length : Int)) (b0) (b0_1) (b0_2) (b0_3) (b1) (b1_1) (b1_2) (b2) (b2_1) (b2_2) (b2_3) (b2_4) = _
    unfold st_ref7_usesExpr_49_0_0 fn_ref7_usesExpr_49_0_0
    rw [e1]
    rfl
end Go.Proofs.YtmjbedjnojcmfaaDoor.Ex

namespace Go.Proofs.YtmjbedjnojcmfaaDoor.Ex
open Go.Proofs Go.Proofs.YtmjbedjnojcmfaaDoor
set_option maxRecDepth 100000
set_option maxHeartbeats 2000000
set_option linter.unusedVariables false
set_option linter.unusedSimpArgs false
def ash_ref7_usesCond : List Sh := [.dat tPg, .dat tTh, .dat tCd]
def kp_ref7_usesCond_52_0 : Nat → List Nat := fun c => bif c.beq 0 then [3, 4, 5, 7] else [3, 4, 5, 6]
def kp_ref7_usesCond_52_2 : Nat → List Nat := fun c => bif c.beq 0 then [3, 4, 5, 8] else [6]
class Rec_ref7_usesCond where
  K : (Pg × (Th × (Cd × Unit))) → Option Bool
  s : SoundA Tryd.prog 52 (conP true ash_ref7_usesCond (.dat .bool) K)
section
variable [Rec_ref7_usesCond]
noncomputable def sp_ref7_usesCond : List Con := [⟨49, con_ref7_usesExpr, snd_ref7_usesExpr⟩, ⟨52, (conP true ash_ref7_usesCond (.dat .bool) Rec_ref7_usesCond.K), Rec_ref7_usesCond.s⟩]
def s_ref7_usesCond_52_0_0 : StS := ⟨[(3, .ptr 0 0), (4, .ptr 1 0), (5, .ptr 2 0), (7, .int .i64)], [(0, .box [.sl tGb, .sl tGb, .sl .str, .sl tTh]), (1, .box [.str, .sl .str, .sl (.mu 2)]), (2, .box [.int .i64, .int .i64, .sl (.mu 0), .sl (.mu 1)])], 3⟩
def x_ref7_usesCond_52_0_0_0 : StS := ⟨[(3, .ptr 0 0), (4, .ptr 1 0), (5, .ptr 2 0), (6, .undef)], [(0, .box [.sl tGb, .sl tGb, .sl .str, .sl tTh]), (1, .box [.str, .sl .str, .sl (.mu 2)]), (2, .box [.int .i64, .int .i64, .sl (.mu 0), .sl (.mu 1)])], 3⟩
def x_ref7_usesCond_52_0_0_1 : StS := ⟨[(3, .ptr 0 0), (4, .ptr 1 0), (5, .ptr 2 0), (6, .bool)], [(0, .box [.sl tGb, .sl tGb, .sl .str, .sl tTh]), (1, .box [.str, .sl .str, .sl (.mu 2)]), (2, .box [.int .i64, .int .i64, .sl (.mu 0), .sl (.mu 1)])], 3⟩
abbrev X_ref7_usesCond_52_0_0 := (Int × (List Gb) × (List Gb) × (List ByteArray) × (List Th) × ByteArray × (List ByteArray) × (List (RT.C 2)) × Int × Int × (List (RT.C 0)) × (List (RT.C 1)))
def fl_ref7_usesCond_52_0_0 (d : StD s_ref7_usesCond_52_0_0) : X_ref7_usesCond_52_0_0 := (d.1.2.2.2.1, d.2.1.1, d.2.1.2.1, d.2.1.2.2.1, d.2.1.2.2.2.1, d.2.2.1.1, d.2.2.1.2.1, d.2.2.1.2.2.1, d.2.2.2.1.1, d.2.2.2.1.2.1, d.2.2.2.1.2.2.1, d.2.2.2.1.2.2.2.1)
def un_ref7_usesCond_52_0_0 (x : X_ref7_usesCond_52_0_0) : StD s_ref7_usesCond_52_0_0 := (((), (), (), x.1, ()), ((x.2.1, x.2.2.1, x.2.2.2.1, x.2.2.2.2.1, ()), (x.2.2.2.2.2.1, x.2.2.2.2.2.2.1, x.2.2.2.2.2.2.2.1, ()), (x.2.2.2.2.2.2.2.2.1, x.2.2.2.2.2.2.2.2.2.1, x.2.2.2.2.2.2.2.2.2.2.1, x.2.2.2.2.2.2.2.2.2.2.2, ()), ()))
abbrev X_ref7_usesCond_52_0_0_0 := ((List Gb) × (List Gb) × (List ByteArray) × (List Th) × ByteArray × (List ByteArray) × (List (RT.C 2)) × Int × Int × (List (RT.C 0)) × (List (RT.C 1)))
def fl_ref7_usesCond_52_0_0_0 (d : StD x_ref7_usesCond_52_0_0_0) : X_ref7_usesCond_52_0_0_0 := (d.2.1.1, d.2.1.2.1, d.2.1.2.2.1, d.2.1.2.2.2.1, d.2.2.1.1, d.2.2.1.2.1, d.2.2.1.2.2.1, d.2.2.2.1.1, d.2.2.2.1.2.1, d.2.2.2.1.2.2.1, d.2.2.2.1.2.2.2.1)
def un_ref7_usesCond_52_0_0_0 (x : X_ref7_usesCond_52_0_0_0) : StD x_ref7_usesCond_52_0_0_0 := (((), (), (), (), ()), ((x.1, x.2.1, x.2.2.1, x.2.2.2.1, ()), (x.2.2.2.2.1, x.2.2.2.2.2.1, x.2.2.2.2.2.2.1, ()), (x.2.2.2.2.2.2.2.1, x.2.2.2.2.2.2.2.2.1, x.2.2.2.2.2.2.2.2.2.1, x.2.2.2.2.2.2.2.2.2.2, ()), ()))
abbrev X_ref7_usesCond_52_0_0_1 := (Bool × (List Gb) × (List Gb) × (List ByteArray) × (List Th) × ByteArray × (List ByteArray) × (List (RT.C 2)) × Int × Int × (List (RT.C 0)) × (List (RT.C 1)))
def fl_ref7_usesCond_52_0_0_1 (d : StD x_ref7_usesCond_52_0_0_1) : X_ref7_usesCond_52_0_0_1 := (d.1.2.2.2.1, d.2.1.1, d.2.1.2.1, d.2.1.2.2.1, d.2.1.2.2.2.1, d.2.2.1.1, d.2.2.1.2.1, d.2.2.1.2.2.1, d.2.2.2.1.1, d.2.2.2.1.2.1, d.2.2.2.1.2.2.1, d.2.2.2.1.2.2.2.1)
def un_ref7_usesCond_52_0_0_1 (x : X_ref7_usesCond_52_0_0_1) : StD x_ref7_usesCond_52_0_0_1 := (((), (), (), x.1, ()), ((x.2.1, x.2.2.1, x.2.2.2.1, x.2.2.2.2.1, ()), (x.2.2.2.2.2.1, x.2.2.2.2.2.2.1, x.2.2.2.2.2.2.2.1, ()), (x.2.2.2.2.2.2.2.2.1, x.2.2.2.2.2.2.2.2.2.1, x.2.2.2.2.2.2.2.2.2.2.1, x.2.2.2.2.2.2.2.2.2.2.2, ()), ()))
noncomputable def st_ref7_usesCond_52_0_0 (s7 : Int) (b0 : (List Gb)) (b0_1 : (List Gb)) (b0_2 : (List ByteArray)) (b0_3 : (List Th)) (b1 : ByteArray) (b1_1 : (List ByteArray)) (b1_2 : (List (RT.C 2))) (b2 : Int) (b2_1 : Int) (b2_2 : (List (RT.C 0))) (b2_3 : (List (RT.C 1))) : Option ((Int × (List Gb) × (List Gb) × (List ByteArray) × (List Th) × ByteArray × (List ByteArray) × (List (RT.C 2)) × Int × Int × (List (RT.C 0)) × (List (RT.C 1))) ⊕ (((List Gb) × (List Gb) × (List ByteArray) × (List Th) × ByteArray × (List ByteArray) × (List (RT.C 2)) × Int × Int × (List (RT.C 0)) × (List (RT.C 1))) ⊕ (Bool × (List Gb) × (List Gb) × (List ByteArray) × (List Th) × ByteArray × (List ByteArray) × (List (RT.C 2)) × Int × Int × (List (RT.C 0)) × (List (RT.C 1))))) :=
  bif decide (s7 < (↑b2_2.length : Int)) then
 bif decide (0 ≤ s7) then
 optC b2_2[s7.toNat]? none fun d16 ↦
 optC (G_ref7_usesExpr ((b0, b0_1, b0_2, b0_3), (b1, b1_1, b1_2), uT0 d16, ())) none fun d17 ↦
 bif !d17 then some (Sum.inr (Sum.inr (false, b0, b0_1, b0_2, b0_3, b1, b1_1, b1_2, b2, b2_1, b2_2, b2_3)))
 else some (Sum.inl (Go.IntKind.i64.wrap (s7 + 1), b0, b0_1, b0_2, b0_3, b1, b1_1, b1_2, b2, b2_1, b2_2, b2_3))
 else none
 else some (Sum.inr (Sum.inl (b0, b0_1, b0_2, b0_3, b1, b1_1, b1_2, b2, b2_1, b2_2, b2_3)))
noncomputable def sx_ref7_usesCond_52_0_0 (x : X_ref7_usesCond_52_0_0) : Option (X_ref7_usesCond_52_0_0 ⊕ (X_ref7_usesCond_52_0_0_0 ⊕ X_ref7_usesCond_52_0_0_1)) := st_ref7_usesCond_52_0_0 x.1 x.2.1 x.2.2.1 x.2.2.2.1 x.2.2.2.2.1 x.2.2.2.2.2.1 x.2.2.2.2.2.2.1 x.2.2.2.2.2.2.2.1 x.2.2.2.2.2.2.2.2.1 x.2.2.2.2.2.2.2.2.2.1 x.2.2.2.2.2.2.2.2.2.2.1 x.2.2.2.2.2.2.2.2.2.2.2
theorem rn_ref7_usesCond_52_0_0 (x : X_ref7_usesCond_52_0_0) : rdX (cxU sp_ref7_usesCond [] 40 (1048576 ^ 9)) keeps 8 ⟨52, 41, keeps 52, 0⟩ 0 (bodyX 52 0) 0 kp_ref7_usesCond_52_0 (sT s_ref7_usesCond_52_0_0 (un_ref7_usesCond_52_0_0 x)) (sH s_ref7_usesCond_52_0_0 (un_ref7_usesCond_52_0_0 x)) (rdO (fun T h => (rdS s_ref7_usesCond_52_0_0 T h).map fl_ref7_usesCond_52_0_0) (getOr (getE 2 x_ref7_usesCond_52_0_0_0 fl_ref7_usesCond_52_0_0_0) (getE 1 x_ref7_usesCond_52_0_0_1 fl_ref7_usesCond_52_0_0_1))) = sx_ref7_usesCond_52_0_0 x := by kernel_rfl
noncomputable def L_ref7_usesCond_52_0_0 (x : X_ref7_usesCond_52_0_0) : Option (X_ref7_usesCond_52_0_0_0 ⊕ X_ref7_usesCond_52_0_0_1) := iterO (fun x => st_ref7_usesCond_52_0_0 x.1 x.2.1 x.2.2.1 x.2.2.2.1 x.2.2.2.2.1 x.2.2.2.2.2.1 x.2.2.2.2.2.2.1 x.2.2.2.2.2.2.2.1 x.2.2.2.2.2.2.2.2.1 x.2.2.2.2.2.2.2.2.2.1 x.2.2.2.2.2.2.2.2.2.2.1 x.2.2.2.2.2.2.2.2.2.2.2) FUEL x
noncomputable def q_ref7_usesCond_52_0 : Nat → Tm → Prog (Nat × Tm) := (varP 0 (fun T h => (rdS s_ref7_usesCond_52_0_0 T h).map fl_ref7_usesCond_52_0_0) L_ref7_usesCond_52_0_0 (fun y => .alt y (altE 2 x_ref7_usesCond_52_0_0_0 un_ref7_usesCond_52_0_0_0) (altE 1 x_ref7_usesCond_52_0_0_1 un_ref7_usesCond_52_0_0_1)) (fun _ _ => .fail))
noncomputable def lc_ref7_usesCond_52_0 : Lpc := ⟨52, 0, 41, (fun base T => .norm base (kp_ref7_usesCond_52_0 0) T (q_ref7_usesCond_52_0 base)), by kernel_rfl, by kernel_rfl, (loopU sp_ref7_usesCond [] 40 (1048576 ^ 9) 8 (keep := kp_ref7_usesCond_52_0) (q := q_ref7_usesCond_52_0) (by kernel_rfl) (varX_ok (s := s_ref7_usesCond_52_0_0) (un := un_ref7_usesCond_52_0_0) (by rfl) (fun _ => rfl) (getOr_ok (getE_ok (s := x_ref7_usesCond_52_0_0_0) (un := un_ref7_usesCond_52_0_0_0) (by rfl) (fun _ => rfl)) (getE_ok (s := x_ref7_usesCond_52_0_0_1) (un := un_ref7_usesCond_52_0_0_1) (by rfl) (fun _ => rfl))) (step := sx_ref7_usesCond_52_0_0) rn_ref7_usesCond_52_0_0 (fun _ _ e => ⟨_, e⟩) (altOr_ok (altE_ok 2 x_ref7_usesCond_52_0_0_0 un_ref7_usesCond_52_0_0_0) (altE_ok 1 x_ref7_usesCond_52_0_0_1 un_ref7_usesCond_52_0_0_1)) (VarOk.fail _ _)))⟩
noncomputable abbrev cx_ref7_usesCond_52_2 := cxU sp_ref7_usesCond [lc_ref7_usesCond_52_0] 40 (1048576 ^ 9)
def s_ref7_usesCond_52_2_0 : StS := ⟨[(3, .ptr 0 0), (4, .ptr 1 0), (5, .ptr 2 0), (8, .int .i64)], [(0, .box [.sl tGb, .sl tGb, .sl .str, .sl tTh]), (1, .box [.str, .sl .str, .sl (.mu 2)]), (2, .box [.int .i64, .int .i64, .sl (.mu 0), .sl (.mu 1)])], 3⟩
def x_ref7_usesCond_52_2_0_0 : StS := ⟨[(6, .undef)], [], 0⟩
def x_ref7_usesCond_52_2_0_1 : StS := ⟨[(6, .bool)], [], 0⟩
abbrev X_ref7_usesCond_52_2_0 := (Int × (List Gb) × (List Gb) × (List ByteArray) × (List Th) × ByteArray × (List ByteArray) × (List (RT.C 2)) × Int × Int × (List (RT.C 0)) × (List (RT.C 1)))
def fl_ref7_usesCond_52_2_0 (d : StD s_ref7_usesCond_52_2_0) : X_ref7_usesCond_52_2_0 := (d.1.2.2.2.1, d.2.1.1, d.2.1.2.1, d.2.1.2.2.1, d.2.1.2.2.2.1, d.2.2.1.1, d.2.2.1.2.1, d.2.2.1.2.2.1, d.2.2.2.1.1, d.2.2.2.1.2.1, d.2.2.2.1.2.2.1, d.2.2.2.1.2.2.2.1)
def un_ref7_usesCond_52_2_0 (x : X_ref7_usesCond_52_2_0) : StD s_ref7_usesCond_52_2_0 := (((), (), (), x.1, ()), ((x.2.1, x.2.2.1, x.2.2.2.1, x.2.2.2.2.1, ()), (x.2.2.2.2.2.1, x.2.2.2.2.2.2.1, x.2.2.2.2.2.2.2.1, ()), (x.2.2.2.2.2.2.2.2.1, x.2.2.2.2.2.2.2.2.2.1, x.2.2.2.2.2.2.2.2.2.2.1, x.2.2.2.2.2.2.2.2.2.2.2, ()), ()))
abbrev X_ref7_usesCond_52_2_0_0 := Unit
def fl_ref7_usesCond_52_2_0_0 (d : StD x_ref7_usesCond_52_2_0_0) : X_ref7_usesCond_52_2_0_0 := ()
def un_ref7_usesCond_52_2_0_0 (x : X_ref7_usesCond_52_2_0_0) : StD x_ref7_usesCond_52_2_0_0 := (((), ()), ())
abbrev X_ref7_usesCond_52_2_0_1 := Bool
def fl_ref7_usesCond_52_2_0_1 (d : StD x_ref7_usesCond_52_2_0_1) : X_ref7_usesCond_52_2_0_1 := (d.1.1)
def un_ref7_usesCond_52_2_0_1 (x : X_ref7_usesCond_52_2_0_1) : StD x_ref7_usesCond_52_2_0_1 := ((x, ()), ())
noncomputable def st_ref7_usesCond_52_2_0 (s8 : Int) (b0 : (List Gb)) (b0_1 : (List Gb)) (b0_2 : (List ByteArray)) (b0_3 : (List Th)) (b1 : ByteArray) (b1_1 : (List ByteArray)) (b1_2 : (List (RT.C 2))) (b2 : Int) (b2_1 : Int) (b2_2 : (List (RT.C 0))) (b2_3 : (List (RT.C 1))) : Option ((Int × (List Gb) × (List Gb) × (List ByteArray) × (List Th) × ByteArray × (List ByteArray) × (List (RT.C 2)) × Int × Int × (List (RT.C 0)) × (List (RT.C 1))) ⊕ (Unit ⊕ Bool)) :=
  bif decide (s8 < (↑b2_3.length : Int)) then
 bif decide (0 ≤ s8) then
 optC b2_3[s8.toNat]? none fun d16 ↦
 optC (Rec_ref7_usesCond.K ((b0, b0_1, b0_2, b0_3), (b1, b1_1, b1_2), uT1 d16, ())) none fun d17 ↦
 bif !d17 then some (Sum.inr (Sum.inr false)) else some (Sum.inl (Go.IntKind.i64.wrap (s8 + 1), b0, b0_1, b0_2, b0_3, b1, b1_1, b1_2, b2, b2_1, b2_2, b2_3))
 else none
 else some (Sum.inr (Sum.inl PUnit.unit))
noncomputable def sx_ref7_usesCond_52_2_0 (x : X_ref7_usesCond_52_2_0) : Option (X_ref7_usesCond_52_2_0 ⊕ (X_ref7_usesCond_52_2_0_0 ⊕ X_ref7_usesCond_52_2_0_1)) := st_ref7_usesCond_52_2_0 x.1 x.2.1 x.2.2.1 x.2.2.2.1 x.2.2.2.2.1 x.2.2.2.2.2.1 x.2.2.2.2.2.2.1 x.2.2.2.2.2.2.2.1 x.2.2.2.2.2.2.2.2.1 x.2.2.2.2.2.2.2.2.2.1 x.2.2.2.2.2.2.2.2.2.2.1 x.2.2.2.2.2.2.2.2.2.2.2
theorem rn_ref7_usesCond_52_2_0 (x : X_ref7_usesCond_52_2_0) : rdX cx_ref7_usesCond_52_2 keeps 8 ⟨52, 41, keeps 52, 0⟩ 2 (bodyX 52 2) 0 kp_ref7_usesCond_52_2 (sT s_ref7_usesCond_52_2_0 (un_ref7_usesCond_52_2_0 x)) (sH s_ref7_usesCond_52_2_0 (un_ref7_usesCond_52_2_0 x)) (rdO (fun T h => (rdS s_ref7_usesCond_52_2_0 T h).map fl_ref7_usesCond_52_2_0) (getOr (getE 4 x_ref7_usesCond_52_2_0_0 fl_ref7_usesCond_52_2_0_0) (getE 1 x_ref7_usesCond_52_2_0_1 fl_ref7_usesCond_52_2_0_1))) = sx_ref7_usesCond_52_2_0 x := by kernel_rfl
noncomputable def L_ref7_usesCond_52_2_0 (x : X_ref7_usesCond_52_2_0) : Option (X_ref7_usesCond_52_2_0_0 ⊕ X_ref7_usesCond_52_2_0_1) := iterO (fun x => st_ref7_usesCond_52_2_0 x.1 x.2.1 x.2.2.1 x.2.2.2.1 x.2.2.2.2.1 x.2.2.2.2.2.1 x.2.2.2.2.2.2.1 x.2.2.2.2.2.2.2.1 x.2.2.2.2.2.2.2.2.1 x.2.2.2.2.2.2.2.2.2.1 x.2.2.2.2.2.2.2.2.2.2.1 x.2.2.2.2.2.2.2.2.2.2.2) FUEL x
noncomputable def q_ref7_usesCond_52_2 : Nat → Tm → Prog (Nat × Tm) := (varP 0 (fun T h => (rdS s_ref7_usesCond_52_2_0 T h).map fl_ref7_usesCond_52_2_0) L_ref7_usesCond_52_2_0 (fun y => .alt y (altE 4 x_ref7_usesCond_52_2_0_0 un_ref7_usesCond_52_2_0_0) (altE 1 x_ref7_usesCond_52_2_0_1 un_ref7_usesCond_52_2_0_1)) (fun _ _ => .fail))
noncomputable def lc_ref7_usesCond_52_2 : Lpc := ⟨52, 2, 41, (fun base T => .norm base (kp_ref7_usesCond_52_2 0) T (q_ref7_usesCond_52_2 base)), by kernel_rfl, by kernel_rfl, (loopU sp_ref7_usesCond [lc_ref7_usesCond_52_0] 40 (1048576 ^ 9) 8 (keep := kp_ref7_usesCond_52_2) (q := q_ref7_usesCond_52_2) (by kernel_rfl) (varX_ok (s := s_ref7_usesCond_52_2_0) (un := un_ref7_usesCond_52_2_0) (by rfl) (fun _ => rfl) (getOr_ok (getE_ok (s := x_ref7_usesCond_52_2_0_0) (un := un_ref7_usesCond_52_2_0_0) (by rfl) (fun _ => rfl)) (getE_ok (s := x_ref7_usesCond_52_2_0_1) (un := un_ref7_usesCond_52_2_0_1) (by rfl) (fun _ => rfl))) (step := sx_ref7_usesCond_52_2_0) rn_ref7_usesCond_52_2_0 (fun _ _ e => ⟨_, e⟩) (altOr_ok (altE_ok 4 x_ref7_usesCond_52_2_0_0 un_ref7_usesCond_52_2_0_0) (altE_ok 1 x_ref7_usesCond_52_2_0_1 un_ref7_usesCond_52_2_0_1)) (VarOk.fail _ _)))⟩
noncomputable def g_ref7_usesCond (a0 : Pg) (a1 : Th) (a2 : Cd) : Option Bool :=
  optC (L_ref7_usesCond_52_0_0 (0, a0.1, a0.2.1, a0.2.2.1, a0.2.2.2, a1.1, a1.2.1, a1.2.2, a2)) none fun d7 ↦
 Sum.elim (fun e8 ↦ optC (L_ref7_usesCond_52_2_0 (0, e8)) none fun d9 ↦ Sum.elim (fun e10 ↦ some true) (fun e10 ↦ some e10) d9) (fun e8 ↦ some e8.1) d7
theorem raw_ref7_usesCond (a0 : Pg) (a1 : Th) (a2 : Cd) : evGX1 (cxU sp_ref7_usesCond [lc_ref7_usesCond_52_0, lc_ref7_usesCond_52_2] 40 (1048576 ^ 9)) keeps 8 52 ash_ref7_usesCond (.dat .bool) ((a0, a1, a2, ()) : (Pg × (Th × (Cd × Unit)))) = g_ref7_usesCond a0 a1 a2 := by kernel_rfl
noncomputable def GI_ref7_usesCond (x : (Pg × (Th × (Cd × Unit)))) : Option Bool := g_ref7_usesCond x.1 x.2.1 x.2.2.1
noncomputable def conI_ref7_usesCond : List AV → Prog AV := conP true ash_ref7_usesCond (.dat .bool) GI_ref7_usesCond
theorem sndI_ref7_usesCond : SoundA Tryd.prog 52 conI_ref7_usesCond := conP_sound (evF1_sound (tabOk_of tab_ok) (cmpsOk_of tab_ok cmps_ok) mixed (inU sp_ref7_usesCond [lc_ref7_usesCond_52_0, lc_ref7_usesCond_52_2] 40 (1048576 ^ 9)) (hspL sp_ref7_usesCond) keeps 8 52) true (by rfl) (by rfl) (fun x r e => (evGX1_eq _ _ _ _ _ _ _).trans ((raw_ref7_usesCond x.1 x.2.1 x.2.2.1).trans e)) (.inl rfl)
end
noncomputable def it_ref7_usesCond : Nat → {K : (Pg × (Th × (Cd × Unit))) → Option Bool // SoundA Tryd.prog 52 (conP true ash_ref7_usesCond (.dat .bool) K)}
  | 0 => ⟨fun _ => none, conP_none⟩
  | k + 1 => letI : Rec_ref7_usesCond := ⟨(it_ref7_usesCond k).1, (it_ref7_usesCond k).2⟩; ⟨GI_ref7_usesCond, sndI_ref7_usesCond⟩
noncomputable def G_ref7_usesCond (x : (Pg × (Th × (Cd × Unit)))) : Option Bool := (it_ref7_usesCond (SizeOf.sizeOf x + 1)).1 x
noncomputable def con_ref7_usesCond : List AV → Prog AV := conP true ash_ref7_usesCond (.dat .bool) G_ref7_usesCond
theorem snd_ref7_usesCond : SoundA Tryd.prog 52 con_ref7_usesCond := conP_pick (sh := ash_ref7_usesCond) (rs := .dat .bool) (n := fun x : (Pg × (Th × (Cd × Unit))) => SizeOf.sizeOf x + 1) (F := fun k => (it_ref7_usesCond k).1) (fun k => (it_ref7_usesCond k).2)
end Go.Proofs.YtmjbedjnojcmfaaDoor.Ex

namespace Go.Proofs.YtmjbedjnojcmfaaDoor.Ex
set_option maxRecDepth 100000
set_option maxHeartbeats 2000000
set_option linter.unusedVariables false
set_option linter.unusedSimpArgs false
set_option linter.unusedSectionVars false
variable [Rec_ref7_usesCond]
noncomputable def bd_ref7_usesCond_52_0_0 (b0 : (List Gb)) (b0_1 : (List Gb)) (b0_2 : (List ByteArray)) (b0_3 : (List Th)) (b1 : ByteArray) (b1_1 : (List ByteArray)) (b1_2 : (List (RT.C 2))) (b2 : Int) (b2_1 : Int) (b2_3 : (List (RT.C 1))) (b2_2 : (List (RT.C 0))) (i : Nat)  (d : (RT.C 0)) : Option (Unit ⊕ (X_ref7_usesCond_52_0_0_0 ⊕ X_ref7_usesCond_52_0_0_1)) :=
  optC (G_ref7_usesExpr ((b0, b0_1, b0_2, b0_3), (b1, b1_1, b1_2), uT0 d, ())) (none) fun d17 ↦
   bif !d17 then
   some (Sum.inr (Sum.inr (false, b0, b0_1, b0_2, b0_3, b1, b1_1, b1_2, b2, b2_1, b2_2, b2_3)))
 else some (Sum.inl ())
noncomputable def fn_ref7_usesCond_52_0_0 (b0 : (List Gb)) (b0_1 : (List Gb)) (b0_2 : (List ByteArray)) (b0_3 : (List Th)) (b1 : ByteArray) (b1_1 : (List ByteArray)) (b1_2 : (List (RT.C 2))) (b2 : Int) (b2_1 : Int) (b2_3 : (List (RT.C 1))) (b2_2 : (List (RT.C 0)))  : Option (X_ref7_usesCond_52_0_0_0 ⊕ X_ref7_usesCond_52_0_0_1) :=
  some (Sum.inl (b0, b0_1, b0_2, b0_3, b1, b1_1, b1_2, b2, b2_1, b2_2, b2_3))
noncomputable abbrev rx_ref7_usesCond_52_0_0 (b0 : (List Gb)) (b0_1 : (List Gb)) (b0_2 : (List ByteArray)) (b0_3 : (List Th)) (b1 : ByteArray) (b1_1 : (List ByteArray)) (b1_2 : (List (RT.C 2))) (b2 : Int) (b2_1 : Int) (b2_3 : (List (RT.C 1))) (b2_2 : (List (RT.C 0))) (i : Nat) (s : Unit) : X_ref7_usesCond_52_0_0 := ((i : Int), b0, b0_1, b0_2, b0_3, b1, b1_1, b1_2, b2, b2_1, b2_2, b2_3)
noncomputable def rv_ref7_usesCond_52_0_0 (b0 : (List Gb)) (b0_1 : (List Gb)) (b0_2 : (List ByteArray)) (b0_3 : (List Th)) (b1 : ByteArray) (b1_1 : (List ByteArray)) (b1_2 : (List (RT.C 2))) (b2 : Int) (b2_1 : Int) (b2_3 : (List (RT.C 1))) (b2_2 : (List (RT.C 0))) (s : Unit) : Option (X_ref7_usesCond_52_0_0_0 ⊕ X_ref7_usesCond_52_0_0_1) := rangeO (fun i s d => bd_ref7_usesCond_52_0_0 b0 b0_1 b0_2 b0_3 b1 b1_1 b1_2 b2 b2_1 b2_3 b2_2 i  d) (fun s => fn_ref7_usesCond_52_0_0 b0 b0_1 b0_2 b0_3 b1 b1_1 b1_2 b2 b2_1 b2_3 b2_2 ) 0 b2_2 s
theorem rg_ref7_usesCond_52_0_0 (b0 : (List Gb)) (b0_1 : (List Gb)) (b0_2 : (List ByteArray)) (b0_3 : (List Th)) (b1 : ByteArray) (b1_1 : (List ByteArray)) (b1_2 : (List (RT.C 2))) (b2 : Int) (b2_1 : Int) (b2_3 : (List (RT.C 1))) (b2_2 : (List (RT.C 0))) (s : Unit) (hl : b2_2.length < 9223372036854775807) : L_ref7_usesCond_52_0_0 (0, b0, b0_1, b0_2, b0_3, b1, b1_1, b1_2, b2, b2_1, b2_2, b2_3) = rv_ref7_usesCond_52_0_0 b0 b0_1 b0_2 b0_3 b1 b1_1 b1_2 b2 b2_1 b2_3 b2_2 s := by
  unfold L_ref7_usesCond_52_0_0 rv_ref7_usesCond_52_0_0
  refine iterO_range0 b2_2 (rx_ref7_usesCond_52_0_0 b0 b0_1 b0_2 b0_3 b1 b1_1 b1_2 b2 b2_1 b2_3 b2_2) _ _ ?_ ?_ s (by unfold FUEL; omega)
  · intro i s d hi hd
    have e1 : decide ((i : Int) < (b2_2.length : Int)) = true := decide_eq_true (by omega)
    have e2 : decide (0 ≤ (i : Int)) = true := decide_eq_true (by omega)
    have e3 : Int.toNat (i : Int) = i := Int.toNat_natCast i
    have e4 := wrap_next hi (Nat.le_of_lt hl)
    show st_ref7_usesCond_52_0_0 ((i : Int)) (b0) (b0_1) (b0_2) (b0_3) (b1) (b1_1) (b1_2) (b2) (b2_1) (b2_2) (b2_3) = upd _ (bd_ref7_usesCond_52_0_0 b0 b0_1 b0_2 b0_3 b1 b1_1 b1_2 b2 b2_1 b2_3 b2_2 i  d)
    unfold st_ref7_usesCond_52_0_0 bd_ref7_usesCond_52_0_0
    simp only [e1, e2, e3, e4, hd, cond_true, cond_false, optC_some, upd_cond, upd_optC, upd_elim, upd_inl, upd_inr, upd_none]
  · intro s
    have e1 : decide ((b2_2.length : Int) < (b2_2.length : Int)) = false := decide_eq_false (by omega)
    show st_ref7_usesCond_52_0_0 ((b2_2.length : Int)) (b0) (b0_1) (b0_2) (b0_3) (b1) (b1_1) (b1_2) (b2) (b2_1) (b2_2) (b2_3) = _
    unfold st_ref7_usesCond_52_0_0 fn_ref7_usesCond_52_0_0
    rw [e1]
    rfl
noncomputable def bd_ref7_usesCond_52_2_0 (b0 : (List Gb)) (b0_1 : (List Gb)) (b0_2 : (List ByteArray)) (b0_3 : (List Th)) (b1 : ByteArray) (b1_1 : (List ByteArray)) (b1_2 : (List (RT.C 2))) (b2 : Int) (b2_1 : Int) (b2_2 : (List (RT.C 0))) (b2_3 : (List (RT.C 1))) (i : Nat)  (d : (RT.C 1)) : Option (Unit ⊕ (X_ref7_usesCond_52_2_0_0 ⊕ X_ref7_usesCond_52_2_0_1)) :=
  optC (Rec_ref7_usesCond.K ((b0, b0_1, b0_2, b0_3), (b1, b1_1, b1_2), uT1 d, ())) (none) fun d17 ↦
   bif !d17 then
   some (Sum.inr (Sum.inr false))
 else some (Sum.inl ())
noncomputable def fn_ref7_usesCond_52_2_0 (b0 : (List Gb)) (b0_1 : (List Gb)) (b0_2 : (List ByteArray)) (b0_3 : (List Th)) (b1 : ByteArray) (b1_1 : (List ByteArray)) (b1_2 : (List (RT.C 2))) (b2 : Int) (b2_1 : Int) (b2_2 : (List (RT.C 0))) (b2_3 : (List (RT.C 1)))  : Option (X_ref7_usesCond_52_2_0_0 ⊕ X_ref7_usesCond_52_2_0_1) :=
  some (Sum.inl PUnit.unit)
noncomputable abbrev rx_ref7_usesCond_52_2_0 (b0 : (List Gb)) (b0_1 : (List Gb)) (b0_2 : (List ByteArray)) (b0_3 : (List Th)) (b1 : ByteArray) (b1_1 : (List ByteArray)) (b1_2 : (List (RT.C 2))) (b2 : Int) (b2_1 : Int) (b2_2 : (List (RT.C 0))) (b2_3 : (List (RT.C 1))) (i : Nat) (s : Unit) : X_ref7_usesCond_52_2_0 := ((i : Int), b0, b0_1, b0_2, b0_3, b1, b1_1, b1_2, b2, b2_1, b2_2, b2_3)
noncomputable def rv_ref7_usesCond_52_2_0 (b0 : (List Gb)) (b0_1 : (List Gb)) (b0_2 : (List ByteArray)) (b0_3 : (List Th)) (b1 : ByteArray) (b1_1 : (List ByteArray)) (b1_2 : (List (RT.C 2))) (b2 : Int) (b2_1 : Int) (b2_2 : (List (RT.C 0))) (b2_3 : (List (RT.C 1))) (s : Unit) : Option (X_ref7_usesCond_52_2_0_0 ⊕ X_ref7_usesCond_52_2_0_1) := rangeO (fun i s d => bd_ref7_usesCond_52_2_0 b0 b0_1 b0_2 b0_3 b1 b1_1 b1_2 b2 b2_1 b2_2 b2_3 i  d) (fun s => fn_ref7_usesCond_52_2_0 b0 b0_1 b0_2 b0_3 b1 b1_1 b1_2 b2 b2_1 b2_2 b2_3 ) 0 b2_3 s
theorem rg_ref7_usesCond_52_2_0 (b0 : (List Gb)) (b0_1 : (List Gb)) (b0_2 : (List ByteArray)) (b0_3 : (List Th)) (b1 : ByteArray) (b1_1 : (List ByteArray)) (b1_2 : (List (RT.C 2))) (b2 : Int) (b2_1 : Int) (b2_2 : (List (RT.C 0))) (b2_3 : (List (RT.C 1))) (s : Unit) (hl : b2_3.length < 9223372036854775807) : L_ref7_usesCond_52_2_0 (0, b0, b0_1, b0_2, b0_3, b1, b1_1, b1_2, b2, b2_1, b2_2, b2_3) = rv_ref7_usesCond_52_2_0 b0 b0_1 b0_2 b0_3 b1 b1_1 b1_2 b2 b2_1 b2_2 b2_3 s := by
  unfold L_ref7_usesCond_52_2_0 rv_ref7_usesCond_52_2_0
  refine iterO_range0 b2_3 (rx_ref7_usesCond_52_2_0 b0 b0_1 b0_2 b0_3 b1 b1_1 b1_2 b2 b2_1 b2_2 b2_3) _ _ ?_ ?_ s (by unfold FUEL; omega)
  · intro i s d hi hd
    have e1 : decide ((i : Int) < (b2_3.length : Int)) = true := decide_eq_true (by omega)
    have e2 : decide (0 ≤ (i : Int)) = true := decide_eq_true (by omega)
    have e3 : Int.toNat (i : Int) = i := Int.toNat_natCast i
    have e4 := wrap_next hi (Nat.le_of_lt hl)
    show st_ref7_usesCond_52_2_0 ((i : Int)) (b0) (b0_1) (b0_2) (b0_3) (b1) (b1_1) (b1_2) (b2) (b2_1) (b2_2) (b2_3) = upd _ (bd_ref7_usesCond_52_2_0 b0 b0_1 b0_2 b0_3 b1 b1_1 b1_2 b2 b2_1 b2_2 b2_3 i  d)
    unfold st_ref7_usesCond_52_2_0 bd_ref7_usesCond_52_2_0
    simp only [e1, e2, e3, e4, hd, cond_true, cond_false, optC_some, upd_cond, upd_optC, upd_elim, upd_inl, upd_inr, upd_none]
  · intro s
    have e1 : decide ((b2_3.length : Int) < (b2_3.length : Int)) = false := decide_eq_false (by omega)
    show st_ref7_usesCond_52_2_0 ((b2_3.length : Int)) (b0) (b0_1) (b0_2) (b0_3) (b1) (b1_1) (b1_2) (b2) (b2_1) (b2_2) (b2_3) = _
    unfold st_ref7_usesCond_52_2_0 fn_ref7_usesCond_52_2_0
    rw [e1]
    rfl
end Go.Proofs.YtmjbedjnojcmfaaDoor.Ex

namespace Go.Proofs.YtmjbedjnojcmfaaDoor.Ex
set_option maxRecDepth 100000
set_option linter.unusedVariables false
set_option linter.unusedSimpArgs false
structure okS (pg pa : List Gb) (pm tl : List ByteArray) : Prop where
  g : pg.length < 9223372036854775807
  a : pa.length < 9223372036854775807
  m : pm.length < 9223372036854775807
  l : tl.length < 9223372036854775807
def varU (pg : List Gb) (tl : List ByteArray) (nm : ByteArray) : Bool := tl.any (eqS nm) || pg.any (eqG nm)
theorem n_isVar {pg pa : List Gb} {pm : List ByteArray} {pt : List Th} {tn : ByteArray} {tl : List ByteArray} {tb : List T2} (S : okS pg pa pm tl) (nm : ByteArray) : g_check_scope_isVar ((pg, pa, pm, pt), tn, tl, tb) nm = some (varU pg tl nm) := by
  unfold g_check_scope_isVar varU
  simp only [G_check_Local, n_Local (tn, tl, tb) nm S.l, G_check_Global, n_Global (pg, pa, pm, pt) nm S.g, optC_some, posV_has]
  cases tl.any (eqS nm) <;> rfl
def exU (pg pa : List Gb) (tl : List ByteArray) : T0 → Bool
  | .mk (k, n, op, nm, kids) => ((!(k == 2) || varU pg tl nm) && (!(k == 3) || pa.any (eqG nm))) && kids.attach.all fun x => exU pg pa tl x.1
termination_by t => SizeOf.sizeOf t
decreasing_by
  have := List.sizeOf_lt_of_mem x.2
  simp only [T0.mk.sizeOf_spec, Prod.mk.sizeOf_spec]
  omega
theorem exU_eq (pg pa : List Gb) (tl : List ByteArray) (k n op : Int) (nm : ByteArray) (kids : List T0) : exU pg pa tl (.mk (k, n, op, nm, kids)) = (((!(k == 2) || varU pg tl nm) && (!(k == 3) || pa.any (eqG nm))) && kids.all (exU pg pa tl)) := by
  rw [exU, att_all kids (exU pg pa tl)]
section
variable [Rec_check_scope_expr]
theorem chk_uexpr {pg pa : List Gb} {pm : List ByteArray} {pt : List Th} {tn : ByteArray} {tl : List ByteArray} {tb : List T2} (S : okS pg pa pm tl) (k n op : Int) (nm : ByteArray) (kids : List T0) (hl : kids.length < 9223372036854775807) (h : ∀ d ∈ kids, Rec_check_scope_expr.K (((pg, pa, pm, pt), tn, tl, tb), uT0 d, ()) = some (exU pg pa tl d)) : g_check_scope_expr ((pg, pa, pm, pt), tn, tl, tb) (k, n, op, nm, kids) = some (exU pg pa tl (.mk (k, n, op, nm, kids))) := by
  obtain ⟨j, q⟩ := rangeO_bad (f := fun i _ d => bd_check_scope_expr_96_0_0 pg pa pm pt tn tl tb k n op nm kids pg pa pm pt tn tl tb kids i d) (fin := fun _ => fn_check_scope_expr_96_0_0 pg pa pm pt tn tl tb k n op nm kids pg pa pm pt tn tl tb kids) (p := exU pg pa tl) (o := fun i => .inr ((i : Int), pg, pa, pm, pt, tn, tl, tb, k, n, op, nm, kids, pg, pa, pm, pt, tn, tl, tb)) kids 0 fun j d hd => by
    unfold bd_check_scope_expr_96_0_0
    simp only [h d (List.mem_of_getElem? hd), optC_some]
    cases exU pg pa tl d <;> rfl
  have z : L_check_scope_expr_96_0_0 (kids, (kids.length : Int), 0, pg, pa, pm, pt, tn, tl, tb, k, n, op, nm, kids, pg, pa, pm, pt, tn, tl, tb) = bif kids.all (exU pg pa tl) then some (.inl (pg, pa, pm, pt, tn, tl, tb, k, n, op, nm, kids, pg, pa, pm, pt, tn, tl, tb)) else some (.inr ((j : Int), pg, pa, pm, pt, tn, tl, tb, k, n, op, nm, kids, pg, pa, pm, pt, tn, tl, tb)) := (rg_check_scope_expr_96_0_0 pg pa pm pt tn tl tb k n op nm kids pg pa pm pt tn tl tb kids () hl).trans q
  have dj : decide ((j : Int) ≥ 0) = true := decide_eq_true (by omega)
  have dm : decide ((-1 : Int) ≥ 0) = false := by decide
  unfold g_check_scope_expr
  simp only [G_check_scope_isVar, n_isVar S nm, G_check_Array, n_Array (pg, pa, pm, pt) nm S.a, optC_some, z, posV_has, exU_eq]
  rw [show (k != 2) = !(k == 2) from rfl, show (k != 3) = !(k == 3) from rfl]
  cases kids.all (exU pg pa tl)
  · simp only [cond_false, optC_some, Sum.elim_inr, dj, Bool.not_true, Bool.and_false]
    cases k == 2 <;> cases k == 3 <;> cases varU pg tl nm <;> cases pa.any (eqG nm) <;> rfl
  · simp only [cond_true, optC_some, Sum.elim_inl, dm, Bool.not_false, Bool.and_true]
    cases k == 2 <;> cases k == 3 <;> cases varU pg tl nm <;> cases pa.any (eqG nm) <;> rfl
end
theorem it_uexpr {pg pa : List Gb} {pm : List ByteArray} {pt : List Th} {tn : ByteArray} {tl : List ByteArray} {tb : List T2} (S : okS pg pa pm tl) (t : T0) (ht : ok0 t) : ∀ k, SizeOf.sizeOf t ≤ k → (it_check_scope_expr k).1 (((pg, pa, pm, pt), tn, tl, tb), uT0 t, ()) = some (exU pg pa tl t) := by
  induction ht with
  | @mk c n op nm kids hn hl h ih =>
    intro k hk
    rw [T0.mk.sizeOf_spec] at hk
    obtain ⟨k, rfl⟩ : ∃ m, k = m + 1 := ⟨k - 1, by omega⟩
    letI : Rec_check_scope_expr := ⟨(it_check_scope_expr k).1, (it_check_scope_expr k).2⟩
    refine chk_uexpr S c n op nm kids hl fun d hd => ih d hd k ?_
    have := List.sizeOf_lt_of_mem hd
    simp only [Prod.mk.sizeOf_spec] at hk
    omega
theorem n_uexpr {pg pa : List Gb} {pm : List ByteArray} {pt : List Th} {tn : ByteArray} {tl : List ByteArray} {tb : List T2} (S : okS pg pa pm tl) (e : Xp) (ht : ok0 (.mk e)) : G_check_scope_expr (((pg, pa, pm, pt), tn, tl, tb), e, ()) = some (exU pg pa tl (.mk e)) :=
  it_uexpr S (.mk e) ht _ (by rw [T0.mk.sizeOf_spec]; show 1 + SizeOf.sizeOf e ≤ (1 + _ + (1 + SizeOf.sizeOf e + SizeOf.sizeOf ())) + 1; omega)
theorem n_uexpr' {pg pa : List Gb} {pm : List ByteArray} {pt : List Th} {tn : ByteArray} {tl : List ByteArray} {tb : List T2} (S : okS pg pa pm tl) (d : T0) (ht : ok0 d) : G_check_scope_expr (((pg, pa, pm, pt), tn, tl, tb), uT0 d, ()) = some (exU pg pa tl d) := by
  cases d with
  | mk e => exact n_uexpr S e ht
section
variable [Rec_ref7_usesExpr]
theorem ref_uexpr {pg pa : List Gb} {pm : List ByteArray} {pt : List Th} {tn : ByteArray} {tl : List ByteArray} {tb : List T2} (S : okS pg pa pm tl) (k n op : Int) (nm : ByteArray) (kids : List T0) (hl : kids.length < 9223372036854775807) (h : ∀ d ∈ kids, Rec_ref7_usesExpr.K ((pg, pa, pm, pt), (tn, tl, tb), uT0 d, ()) = some (exU pg pa tl d)) : g_ref7_usesExpr (pg, pa, pm, pt) (tn, tl, tb) (k, n, op, nm, kids) = some (exU pg pa tl (.mk (k, n, op, nm, kids))) := by
  obtain ⟨j, q⟩ := rangeO_bad (f := fun i _ d => bd_ref7_usesExpr_49_0_0 pg pa pm pt tn tl tb k n op nm kids i d) (fin := fun _ => fn_ref7_usesExpr_49_0_0 pg pa pm pt tn tl tb k n op nm kids) (p := exU pg pa tl) (o := fun i => .inr false) kids 0 fun j d hd => by
    unfold bd_ref7_usesExpr_49_0_0
    simp only [h d (List.mem_of_getElem? hd), optC_some]
    cases exU pg pa tl d <;> rfl
  have z : L_ref7_usesExpr_49_0_0 (0, pg, pa, pm, pt, tn, tl, tb, k, n, op, nm, kids) = bif kids.all (exU pg pa tl) then some (.inl ()) else some (.inr false) := (rg_ref7_usesExpr_49_0_0 pg pa pm pt tn tl tb k n op nm kids () hl).trans q
  have lt : ∀ x : Int, decide (x < 0) = !decide (x ≥ 0) := fun x => by rw [Bool.eq_iff_iff]; simp
  unfold g_ref7_usesExpr
  simp only [G_ref7_Local, n_ref7_Local (tn, tl, tb) nm S.l, G_ref7_Global, n_ref7_Global (pg, pa, pm, pt) nm S.g, G_ref7_Array, n_ref7_Array (pg, pa, pm, pt) nm S.a, optC_some, z, lt, posV_has, exU_eq]
  unfold varU
  cases kids.all (exU pg pa tl) <;> cases k == 2 <;> cases k == 3 <;> cases tl.any (eqS nm) <;> cases pg.any (eqG nm) <;> cases pa.any (eqG nm) <;> rfl
end
theorem it_ref_uexpr {pg pa : List Gb} {pm : List ByteArray} {pt : List Th} {tn : ByteArray} {tl : List ByteArray} {tb : List T2} (S : okS pg pa pm tl) (t : T0) (ht : ok0 t) : ∀ k, SizeOf.sizeOf t ≤ k → (it_ref7_usesExpr k).1 ((pg, pa, pm, pt), (tn, tl, tb), uT0 t, ()) = some (exU pg pa tl t) := by
  induction ht with
  | @mk c n op nm kids hn hl h ih =>
    intro k hk
    rw [T0.mk.sizeOf_spec] at hk
    obtain ⟨k, rfl⟩ : ∃ m, k = m + 1 := ⟨k - 1, by omega⟩
    letI : Rec_ref7_usesExpr := ⟨(it_ref7_usesExpr k).1, (it_ref7_usesExpr k).2⟩
    refine ref_uexpr S c n op nm kids hl fun d hd => ih d hd k ?_
    have := List.sizeOf_lt_of_mem hd
    simp only [Prod.mk.sizeOf_spec] at hk
    omega
theorem n_ref_uexpr {pg pa : List Gb} {pm : List ByteArray} {pt : List Th} {tn : ByteArray} {tl : List ByteArray} {tb : List T2} (S : okS pg pa pm tl) (e : Xp) (ht : ok0 (.mk e)) : G_ref7_usesExpr ((pg, pa, pm, pt), (tn, tl, tb), e, ()) = some (exU pg pa tl (.mk e)) :=
  it_ref_uexpr S (.mk e) ht _ (by rw [T0.mk.sizeOf_spec]; show 1 + SizeOf.sizeOf e ≤ (1 + _ + (1 + _ + (1 + SizeOf.sizeOf e + SizeOf.sizeOf ()))) + 1; omega)
theorem n_ref_uexpr' {pg pa : List Gb} {pm : List ByteArray} {pt : List Th} {tn : ByteArray} {tl : List ByteArray} {tb : List T2} (S : okS pg pa pm tl) (d : T0) (ht : ok0 d) : G_ref7_usesExpr ((pg, pa, pm, pt), (tn, tl, tb), uT0 d, ()) = some (exU pg pa tl d) := by
  cases d with
  | mk e => exact n_ref_uexpr S e ht
def cdU (pg pa : List Gb) (tl : List ByteArray) : T1 → Bool
  | .mk (k, rel, l, kids) => l.all (exU pg pa tl) && kids.attach.all fun x => cdU pg pa tl x.1
termination_by t => SizeOf.sizeOf t
decreasing_by
  have := List.sizeOf_lt_of_mem x.2
  simp only [T1.mk.sizeOf_spec, Prod.mk.sizeOf_spec]
  omega
theorem cdU_eq (pg pa : List Gb) (tl : List ByteArray) (k rel : Int) (l : List T0) (kids : List T1) : cdU pg pa tl (.mk (k, rel, l, kids)) = (l.all (exU pg pa tl) && kids.all (cdU pg pa tl)) := by
  rw [cdU, att_all kids (cdU pg pa tl)]
section
variable [Rec_check_scope_cond]
theorem chk_ucond {pg pa : List Gb} {pm : List ByteArray} {pt : List Th} {tn : ByteArray} {tl : List ByteArray} {tb : List T2} (S : okS pg pa pm tl) (k rel : Int) (l : List T0) (kids : List T1) (h0 : l.length < 9223372036854775807) (hl : kids.length < 9223372036854775807) (hx : ∀ d ∈ l, ok0 d) (h : ∀ d ∈ kids, Rec_check_scope_cond.K (((pg, pa, pm, pt), tn, tl, tb), uT1 d, ()) = some (cdU pg pa tl d)) : g_check_scope_cond ((pg, pa, pm, pt), tn, tl, tb) (k, rel, l, kids) = some (cdU pg pa tl (.mk (k, rel, l, kids))) := by
  obtain ⟨j, q⟩ := rangeO_bad (f := fun i _ d => bd_check_scope_cond_96_0_0 pg pa pm pt tn tl tb k rel l kids pg pa pm pt tn tl tb l i d) (fin := fun _ => fn_check_scope_cond_96_0_0 pg pa pm pt tn tl tb k rel l kids pg pa pm pt tn tl tb l) (p := exU pg pa tl) (o := fun i => .inr ((i : Int), pg, pa, pm, pt, tn, tl, tb, k, rel, l, kids, pg, pa, pm, pt, tn, tl, tb)) l 0 fun j d hd => by
    unfold bd_check_scope_cond_96_0_0
    simp only [n_uexpr' S d (hx d (List.mem_of_getElem? hd)), optC_some]
    cases exU pg pa tl d <;> rfl
  have z : L_check_scope_cond_96_0_0 (l, (l.length : Int), 0, pg, pa, pm, pt, tn, tl, tb, k, rel, l, kids, pg, pa, pm, pt, tn, tl, tb) = bif l.all (exU pg pa tl) then some (.inl (pg, pa, pm, pt, tn, tl, tb, k, rel, l, kids, pg, pa, pm, pt, tn, tl, tb)) else some (.inr ((j : Int), pg, pa, pm, pt, tn, tl, tb, k, rel, l, kids, pg, pa, pm, pt, tn, tl, tb)) := (rg_check_scope_cond_96_0_0 pg pa pm pt tn tl tb k rel l kids pg pa pm pt tn tl tb l () h0).trans q
  obtain ⟨j', q'⟩ := rangeO_bad (f := fun i _ d => bd_check_scope_cond_97_0_0 pg pa pm pt tn tl tb pg pa pm pt tn tl tb k rel l kids pg pa pm pt tn tl tb kids i d) (fin := fun _ => fn_check_scope_cond_97_0_0 pg pa pm pt tn tl tb pg pa pm pt tn tl tb k rel l kids pg pa pm pt tn tl tb kids) (p := cdU pg pa tl) (o := fun i => .inr ((i : Int), pg, pa, pm, pt, tn, tl, tb, pg, pa, pm, pt, tn, tl, tb, k, rel, l, kids, pg, pa, pm, pt, tn, tl, tb)) kids 0 fun j d hd => by
    unfold bd_check_scope_cond_97_0_0
    simp only [h d (List.mem_of_getElem? hd), optC_some]
    cases cdU pg pa tl d <;> rfl
  have z' : L_check_scope_cond_97_0_0 (kids, (kids.length : Int), 0, pg, pa, pm, pt, tn, tl, tb, pg, pa, pm, pt, tn, tl, tb, k, rel, l, kids, pg, pa, pm, pt, tn, tl, tb) = bif kids.all (cdU pg pa tl) then some (.inl (pg, pa, pm, pt, tn, tl, tb, pg, pa, pm, pt, tn, tl, tb, k, rel, l, kids, pg, pa, pm, pt, tn, tl, tb)) else some (.inr ((j' : Int), pg, pa, pm, pt, tn, tl, tb, pg, pa, pm, pt, tn, tl, tb, k, rel, l, kids, pg, pa, pm, pt, tn, tl, tb)) := (rg_check_scope_cond_97_0_0 pg pa pm pt tn tl tb pg pa pm pt tn tl tb k rel l kids pg pa pm pt tn tl tb kids () hl).trans q'
  have dj : decide ((j : Int) ≥ 0) = true := decide_eq_true (by omega)
  have dj' : decide ((j' : Int) ≥ 0) = true := decide_eq_true (by omega)
  have dm : decide ((-1 : Int) ≥ 0) = false := by decide
  unfold g_check_scope_cond
  simp only [z, cdU_eq]
  cases l.all (exU pg pa tl)
  · simp only [cond_false, optC_some, Sum.elim_inr, dj, Bool.not_true, Bool.false_and]
  · simp only [cond_true, optC_some, Sum.elim_inl, z', Bool.true_and]
    cases kids.all (cdU pg pa tl)
    · simp only [cond_false, optC_some, Sum.elim_inr, dj', Bool.not_true]
    · simp only [cond_true, optC_some, Sum.elim_inl, dm, Bool.not_false]
end
theorem it_ucond {pg pa : List Gb} {pm : List ByteArray} {pt : List Th} {tn : ByteArray} {tl : List ByteArray} {tb : List T2} (S : okS pg pa pm tl) (t : T1) (ht : ok1 t) : ∀ k, SizeOf.sizeOf t ≤ k → (it_check_scope_cond k).1 (((pg, pa, pm, pt), tn, tl, tb), uT1 t, ()) = some (cdU pg pa tl t) := by
  induction ht with
  | @mk c rel l kids h0 hl hx h ih =>
    intro k hk
    rw [T1.mk.sizeOf_spec] at hk
    obtain ⟨k, rfl⟩ : ∃ m, k = m + 1 := ⟨k - 1, by omega⟩
    letI : Rec_check_scope_cond := ⟨(it_check_scope_cond k).1, (it_check_scope_cond k).2⟩
    refine chk_ucond S c rel l kids h0 hl hx fun d hd => ih d hd k ?_
    have := List.sizeOf_lt_of_mem hd
    simp only [Prod.mk.sizeOf_spec] at hk
    omega
theorem n_ucond {pg pa : List Gb} {pm : List ByteArray} {pt : List Th} {tn : ByteArray} {tl : List ByteArray} {tb : List T2} (S : okS pg pa pm tl) (e : Cd) (ht : ok1 (.mk e)) : G_check_scope_cond (((pg, pa, pm, pt), tn, tl, tb), e, ()) = some (cdU pg pa tl (.mk e)) :=
  it_ucond S (.mk e) ht _ (by rw [T1.mk.sizeOf_spec]; show 1 + SizeOf.sizeOf e ≤ (1 + _ + (1 + SizeOf.sizeOf e + SizeOf.sizeOf ())) + 1; omega)
section
variable [Rec_ref7_usesCond]
theorem ref_ucond {pg pa : List Gb} {pm : List ByteArray} {pt : List Th} {tn : ByteArray} {tl : List ByteArray} {tb : List T2} (S : okS pg pa pm tl) (k rel : Int) (l : List T0) (kids : List T1) (h0 : l.length < 9223372036854775807) (hl : kids.length < 9223372036854775807) (hx : ∀ d ∈ l, ok0 d) (h : ∀ d ∈ kids, Rec_ref7_usesCond.K ((pg, pa, pm, pt), (tn, tl, tb), uT1 d, ()) = some (cdU pg pa tl d)) : g_ref7_usesCond (pg, pa, pm, pt) (tn, tl, tb) (k, rel, l, kids) = some (cdU pg pa tl (.mk (k, rel, l, kids))) := by
  obtain ⟨j, q⟩ := rangeO_bad (f := fun i _ d => bd_ref7_usesCond_52_0_0 pg pa pm pt tn tl tb k rel kids l i d) (fin := fun _ => fn_ref7_usesCond_52_0_0 pg pa pm pt tn tl tb k rel kids l) (p := exU pg pa tl) (o := fun i => .inr (false, pg, pa, pm, pt, tn, tl, tb, k, rel, l, kids)) l 0 fun j d hd => by
    unfold bd_ref7_usesCond_52_0_0
    simp only [n_ref_uexpr' S d (hx d (List.mem_of_getElem? hd)), optC_some]
    cases exU pg pa tl d <;> rfl
  have z : L_ref7_usesCond_52_0_0 (0, pg, pa, pm, pt, tn, tl, tb, k, rel, l, kids) = bif l.all (exU pg pa tl) then some (.inl (pg, pa, pm, pt, tn, tl, tb, k, rel, l, kids)) else some (.inr (false, pg, pa, pm, pt, tn, tl, tb, k, rel, l, kids)) := (rg_ref7_usesCond_52_0_0 pg pa pm pt tn tl tb k rel kids l () h0).trans q
  obtain ⟨j', q'⟩ := rangeO_bad (f := fun i _ d => bd_ref7_usesCond_52_2_0 pg pa pm pt tn tl tb k rel l kids i d) (fin := fun _ => fn_ref7_usesCond_52_2_0 pg pa pm pt tn tl tb k rel l kids) (p := cdU pg pa tl) (o := fun i => .inr false) kids 0 fun j d hd => by
    unfold bd_ref7_usesCond_52_2_0
    simp only [h d (List.mem_of_getElem? hd), optC_some]
    cases cdU pg pa tl d <;> rfl
  have z' : L_ref7_usesCond_52_2_0 (0, pg, pa, pm, pt, tn, tl, tb, k, rel, l, kids) = bif kids.all (cdU pg pa tl) then some (.inl ()) else some (.inr false) := (rg_ref7_usesCond_52_2_0 pg pa pm pt tn tl tb k rel l kids () hl).trans q'
  unfold g_ref7_usesCond
  simp only [z, cdU_eq]
  cases l.all (exU pg pa tl)
  · rfl
  · simp only [cond_true, optC_some, Sum.elim_inl, z', Bool.true_and]
    cases kids.all (cdU pg pa tl) <;> rfl
end
theorem it_ref_ucond {pg pa : List Gb} {pm : List ByteArray} {pt : List Th} {tn : ByteArray} {tl : List ByteArray} {tb : List T2} (S : okS pg pa pm tl) (t : T1) (ht : ok1 t) : ∀ k, SizeOf.sizeOf t ≤ k → (it_ref7_usesCond k).1 ((pg, pa, pm, pt), (tn, tl, tb), uT1 t, ()) = some (cdU pg pa tl t) := by
  induction ht with
  | @mk c rel l kids h0 hl hx h ih =>
    intro k hk
    rw [T1.mk.sizeOf_spec] at hk
    obtain ⟨k, rfl⟩ : ∃ m, k = m + 1 := ⟨k - 1, by omega⟩
    letI : Rec_ref7_usesCond := ⟨(it_ref7_usesCond k).1, (it_ref7_usesCond k).2⟩
    refine ref_ucond S c rel l kids h0 hl hx fun d hd => ih d hd k ?_
    have := List.sizeOf_lt_of_mem hd
    simp only [Prod.mk.sizeOf_spec] at hk
    omega
theorem n_ref_ucond {pg pa : List Gb} {pm : List ByteArray} {pt : List Th} {tn : ByteArray} {tl : List ByteArray} {tb : List T2} (S : okS pg pa pm tl) (e : Cd) (ht : ok1 (.mk e)) : G_ref7_usesCond ((pg, pa, pm, pt), (tn, tl, tb), e, ()) = some (cdU pg pa tl (.mk e)) :=
  it_ref_ucond S (.mk e) ht _ (by rw [T1.mk.sizeOf_spec]; show 1 + SizeOf.sizeOf e ≤ (1 + _ + (1 + _ + (1 + SizeOf.sizeOf e + SizeOf.sizeOf ()))) + 1; omega)
end Go.Proofs.YtmjbedjnojcmfaaDoor.Ex

namespace Go.Proofs.YtmjbedjnojcmfaaDoor.Ex
open Go.Proofs Go.Proofs.YtmjbedjnojcmfaaDoor
set_option maxRecDepth 100000
set_option maxHeartbeats 2000000
set_option linter.unusedVariables false
set_option linter.unusedSimpArgs false
def ash_check_scope_stmt : List Sh := [.dat (.st (.pair tPg tTh)), .dat tSm]
def kp_check_scope_stmt_64_0 : Nat → List Nat := fun c => bif c.beq 0 then [0, 1, 7, 8] else [4]
class Rec_check_scope_stmt where
  K : ((Pg × Th) × (Stm × Unit)) → Option Bool
  s : SoundA Tryd.prog 16 (conP true ash_check_scope_stmt (.dat .bool) K)
section
variable [Rec_check_scope_stmt]
noncomputable def sp_check_scope_stmt : List Con := [⟨38, con_check_scope_isVar, snd_check_scope_isVar⟩, ⟨39, con_check_scope_expr, snd_check_scope_expr⟩, ⟨40, con_check_Array, snd_check_Array⟩, ⟨17, con_check_Mutex, snd_check_Mutex⟩, ⟨41, con_check_scope_cond, snd_check_scope_cond⟩, ⟨16, (conP true ash_check_scope_stmt (.dat .bool) Rec_check_scope_stmt.K), Rec_check_scope_stmt.s⟩]
def s_check_scope_stmt_64_0_1 : StS := ⟨[(0, .sl (.mu 2)), (1, .clo 37 [] [.ptr 3 0]), (7, .int .i64), (8, .int .i64)], [(3, .box [.clo 16 [.agg [.sl tGb, .sl tGb, .sl .str, .sl tTh, .str, .sl .str, .sl (.mu 2)]] []]), (2, .box [.clo 16 [.agg [.sl tGb, .sl tGb, .sl .str, .sl tTh, .str, .sl .str, .sl (.mu 2)]] []]), (1, .box [.int .i64, .str, .int .i64, .int .i64, .int .i64, .str, .sl (.mu 0), .int .i64, .int .i64, .int .i64, .str, .sl (.mu 0), .int .i64, .int .i64, .sl (.mu 0), .sl (.mu 1), .sl (.mu 2), .sl (.mu 2)]), (0, .box [.sl tGb, .sl tGb, .sl .str, .sl tTh, .str, .sl .str, .sl (.mu 2)])], 4⟩
def x_check_scope_stmt_64_0_1_0 : StS := ⟨[(4, .undef)], [(3, .box [.clo 16 [.agg [.sl tGb, .sl tGb, .sl .str, .sl tTh, .str, .sl .str, .sl (.mu 2)]] []]), (2, .box [.clo 16 [.agg [.sl tGb, .sl tGb, .sl .str, .sl tTh, .str, .sl .str, .sl (.mu 2)]] []]), (1, .box [.int .i64, .str, .int .i64, .int .i64, .int .i64, .str, .sl (.mu 0), .int .i64, .int .i64, .int .i64, .str, .sl (.mu 0), .int .i64, .int .i64, .sl (.mu 0), .sl (.mu 1), .sl (.mu 2), .sl (.mu 2)]), (0, .box [.sl tGb, .sl tGb, .sl .str, .sl tTh, .str, .sl .str, .sl (.mu 2)])], 4⟩
def x_check_scope_stmt_64_0_1_1 : StS := ⟨[(4, .int .i64)], [(3, .box [.clo 16 [.agg [.sl tGb, .sl tGb, .sl .str, .sl tTh, .str, .sl .str, .sl (.mu 2)]] []]), (2, .box [.clo 16 [.agg [.sl tGb, .sl tGb, .sl .str, .sl tTh, .str, .sl .str, .sl (.mu 2)]] []]), (1, .box [.int .i64, .str, .int .i64, .int .i64, .int .i64, .str, .sl (.mu 0), .int .i64, .int .i64, .int .i64, .str, .sl (.mu 0), .int .i64, .int .i64, .sl (.mu 0), .sl (.mu 1), .sl (.mu 2), .sl (.mu 2)]), (0, .box [.sl tGb, .sl tGb, .sl .str, .sl tTh, .str, .sl .str, .sl (.mu 2)])], 4⟩
abbrev X_check_scope_stmt_64_0_1 := ((List (RT.C 2)) × Int × Int × (List Gb) × (List Gb) × (List ByteArray) × (List Th) × ByteArray × (List ByteArray) × (List (RT.C 2)) × (List Gb) × (List Gb) × (List ByteArray) × (List Th) × ByteArray × (List ByteArray) × (List (RT.C 2)) × Int × ByteArray × Int × Int × Int × ByteArray × (List (RT.C 0)) × Int × Int × Int × ByteArray × (List (RT.C 0)) × Int × Int × (List (RT.C 0)) × (List (RT.C 1)) × (List (RT.C 2)) × (List (RT.C 2)) × (List Gb) × (List Gb) × (List ByteArray) × (List Th) × ByteArray × (List ByteArray) × (List (RT.C 2)))
def fl_check_scope_stmt_64_0_1 (d : StD s_check_scope_stmt_64_0_1) : X_check_scope_stmt_64_0_1 := (d.1.1, d.1.2.2.1, d.1.2.2.2.1, d.2.1.1.1.1.1, d.2.1.1.1.1.2.1, d.2.1.1.1.1.2.2.1, d.2.1.1.1.1.2.2.2.1, d.2.1.1.1.1.2.2.2.2.1, d.2.1.1.1.1.2.2.2.2.2.1, d.2.1.1.1.1.2.2.2.2.2.2.1, d.2.2.1.1.1.1.1, d.2.2.1.1.1.1.2.1, d.2.2.1.1.1.1.2.2.1, d.2.2.1.1.1.1.2.2.2.1, d.2.2.1.1.1.1.2.2.2.2.1, d.2.2.1.1.1.1.2.2.2.2.2.1, d.2.2.1.1.1.1.2.2.2.2.2.2.1, d.2.2.2.1.1, d.2.2.2.1.2.1, d.2.2.2.1.2.2.1, d.2.2.2.1.2.2.2.1, d.2.2.2.1.2.2.2.2.1, d.2.2.2.1.2.2.2.2.2.1, d.2.2.2.1.2.2.2.2.2.2.1, d.2.2.2.1.2.2.2.2.2.2.2.1, d.2.2.2.1.2.2.2.2.2.2.2.2.1, d.2.2.2.1.2.2.2.2.2.2.2.2.2.1, d.2.2.2.1.2.2.2.2.2.2.2.2.2.2.1, d.2.2.2.1.2.2.2.2.2.2.2.2.2.2.2.1, d.2.2.2.1.2.2.2.2.2.2.2.2.2.2.2.2.1, d.2.2.2.1.2.2.2.2.2.2.2.2.2.2.2.2.2.1, d.2.2.2.1.2.2.2.2.2.2.2.2.2.2.2.2.2.2.1, d.2.2.2.1.2.2.2.2.2.2.2.2.2.2.2.2.2.2.2.1, d.2.2.2.1.2.2.2.2.2.2.2.2.2.2.2.2.2.2.2.2.1, d.2.2.2.1.2.2.2.2.2.2.2.2.2.2.2.2.2.2.2.2.2.1, d.2.2.2.2.1.1, d.2.2.2.2.1.2.1, d.2.2.2.2.1.2.2.1, d.2.2.2.2.1.2.2.2.1, d.2.2.2.2.1.2.2.2.2.1, d.2.2.2.2.1.2.2.2.2.2.1, d.2.2.2.2.1.2.2.2.2.2.2.1)
def un_check_scope_stmt_64_0_1 (x : X_check_scope_stmt_64_0_1) : StD s_check_scope_stmt_64_0_1 := ((x.1, ((), ((), ())), x.2.1, x.2.2.1, ()), (((((x.2.2.2.1, x.2.2.2.2.1, x.2.2.2.2.2.1, x.2.2.2.2.2.2.1, x.2.2.2.2.2.2.2.1, x.2.2.2.2.2.2.2.2.1, x.2.2.2.2.2.2.2.2.2.1, ()), ()), ()), ()), ((((x.2.2.2.2.2.2.2.2.2.2.1, x.2.2.2.2.2.2.2.2.2.2.2.1, x.2.2.2.2.2.2.2.2.2.2.2.2.1, x.2.2.2.2.2.2.2.2.2.2.2.2.2.1, x.2.2.2.2.2.2.2.2.2.2.2.2.2.2.1, x.2.2.2.2.2.2.2.2.2.2.2.2.2.2.2.1, x.2.2.2.2.2.2.2.2.2.2.2.2.2.2.2.2.1, ()), ()), ()), ()), (x.2.2.2.2.2.2.2.2.2.2.2.2.2.2.2.2.2.1, x.2.2.2.2.2.2.2.2.2.2.2.2.2.2.2.2.2.2.1, x.2.2.2.2.2.2.2.2.2.2.2.2.2.2.2.2.2.2.2.1, x.2.2.2.2.2.2.2.2.2.2.2.2.2.2.2.2.2.2.2.2.1, x.2.2.2.2.2.2.2.2.2.2.2.2.2.2.2.2.2.2.2.2.2.1, x.2.2.2.2.2.2.2.2.2.2.2.2.2.2.2.2.2.2.2.2.2.2.1, x.2.2.2.2.2.2.2.2.2.2.2.2.2.2.2.2.2.2.2.2.2.2.2.1, x.2.2.2.2.2.2.2.2.2.2.2.2.2.2.2.2.2.2.2.2.2.2.2.2.1, x.2.2.2.2.2.2.2.2.2.2.2.2.2.2.2.2.2.2.2.2.2.2.2.2.2.1, x.2.2.2.2.2.2.2.2.2.2.2.2.2.2.2.2.2.2.2.2.2.2.2.2.2.2.1, x.2.2.2.2.2.2.2.2.2.2.2.2.2.2.2.2.2.2.2.2.2.2.2.2.2.2.2.1, x.2.2.2.2.2.2.2.2.2.2.2.2.2.2.2.2.2.2.2.2.2.2.2.2.2.2.2.2.1, x.2.2.2.2.2.2.2.2.2.2.2.2.2.2.2.2.2.2.2.2.2.2.2.2.2.2.2.2.2.1, x.2.2.2.2.2.2.2.2.2.2.2.2.2.2.2.2.2.2.2.2.2.2.2.2.2.2.2.2.2.2.1, x.2.2.2.2.2.2.2.2.2.2.2.2.2.2.2.2.2.2.2.2.2.2.2.2.2.2.2.2.2.2.2.1, x.2.2.2.2.2.2.2.2.2.2.2.2.2.2.2.2.2.2.2.2.2.2.2.2.2.2.2.2.2.2.2.2.1, x.2.2.2.2.2.2.2.2.2.2.2.2.2.2.2.2.2.2.2.2.2.2.2.2.2.2.2.2.2.2.2.2.2.1, x.2.2.2.2.2.2.2.2.2.2.2.2.2.2.2.2.2.2.2.2.2.2.2.2.2.2.2.2.2.2.2.2.2.2.1, ()), (x.2.2.2.2.2.2.2.2.2.2.2.2.2.2.2.2.2.2.2.2.2.2.2.2.2.2.2.2.2.2.2.2.2.2.2.1, x.2.2.2.2.2.2.2.2.2.2.2.2.2.2.2.2.2.2.2.2.2.2.2.2.2.2.2.2.2.2.2.2.2.2.2.2.1, x.2.2.2.2.2.2.2.2.2.2.2.2.2.2.2.2.2.2.2.2.2.2.2.2.2.2.2.2.2.2.2.2.2.2.2.2.2.1, x.2.2.2.2.2.2.2.2.2.2.2.2.2.2.2.2.2.2.2.2.2.2.2.2.2.2.2.2.2.2.2.2.2.2.2.2.2.2.1, x.2.2.2.2.2.2.2.2.2.2.2.2.2.2.2.2.2.2.2.2.2.2.2.2.2.2.2.2.2.2.2.2.2.2.2.2.2.2.2.1, x.2.2.2.2.2.2.2.2.2.2.2.2.2.2.2.2.2.2.2.2.2.2.2.2.2.2.2.2.2.2.2.2.2.2.2.2.2.2.2.2.1, x.2.2.2.2.2.2.2.2.2.2.2.2.2.2.2.2.2.2.2.2.2.2.2.2.2.2.2.2.2.2.2.2.2.2.2.2.2.2.2.2.2, ()), ()))
abbrev X_check_scope_stmt_64_0_1_0 := ((List Gb) × (List Gb) × (List ByteArray) × (List Th) × ByteArray × (List ByteArray) × (List (RT.C 2)) × (List Gb) × (List Gb) × (List ByteArray) × (List Th) × ByteArray × (List ByteArray) × (List (RT.C 2)) × Int × ByteArray × Int × Int × Int × ByteArray × (List (RT.C 0)) × Int × Int × Int × ByteArray × (List (RT.C 0)) × Int × Int × (List (RT.C 0)) × (List (RT.C 1)) × (List (RT.C 2)) × (List (RT.C 2)) × (List Gb) × (List Gb) × (List ByteArray) × (List Th) × ByteArray × (List ByteArray) × (List (RT.C 2)))
def fl_check_scope_stmt_64_0_1_0 (d : StD x_check_scope_stmt_64_0_1_0) : X_check_scope_stmt_64_0_1_0 := (d.2.1.1.1.1.1, d.2.1.1.1.1.2.1, d.2.1.1.1.1.2.2.1, d.2.1.1.1.1.2.2.2.1, d.2.1.1.1.1.2.2.2.2.1, d.2.1.1.1.1.2.2.2.2.2.1, d.2.1.1.1.1.2.2.2.2.2.2.1, d.2.2.1.1.1.1.1, d.2.2.1.1.1.1.2.1, d.2.2.1.1.1.1.2.2.1, d.2.2.1.1.1.1.2.2.2.1, d.2.2.1.1.1.1.2.2.2.2.1, d.2.2.1.1.1.1.2.2.2.2.2.1, d.2.2.1.1.1.1.2.2.2.2.2.2.1, d.2.2.2.1.1, d.2.2.2.1.2.1, d.2.2.2.1.2.2.1, d.2.2.2.1.2.2.2.1, d.2.2.2.1.2.2.2.2.1, d.2.2.2.1.2.2.2.2.2.1, d.2.2.2.1.2.2.2.2.2.2.1, d.2.2.2.1.2.2.2.2.2.2.2.1, d.2.2.2.1.2.2.2.2.2.2.2.2.1, d.2.2.2.1.2.2.2.2.2.2.2.2.2.1, d.2.2.2.1.2.2.2.2.2.2.2.2.2.2.1, d.2.2.2.1.2.2.2.2.2.2.2.2.2.2.2.1, d.2.2.2.1.2.2.2.2.2.2.2.2.2.2.2.2.1, d.2.2.2.1.2.2.2.2.2.2.2.2.2.2.2.2.2.1, d.2.2.2.1.2.2.2.2.2.2.2.2.2.2.2.2.2.2.1, d.2.2.2.1.2.2.2.2.2.2.2.2.2.2.2.2.2.2.2.1, d.2.2.2.1.2.2.2.2.2.2.2.2.2.2.2.2.2.2.2.2.1, d.2.2.2.1.2.2.2.2.2.2.2.2.2.2.2.2.2.2.2.2.2.1, d.2.2.2.2.1.1, d.2.2.2.2.1.2.1, d.2.2.2.2.1.2.2.1, d.2.2.2.2.1.2.2.2.1, d.2.2.2.2.1.2.2.2.2.1, d.2.2.2.2.1.2.2.2.2.2.1, d.2.2.2.2.1.2.2.2.2.2.2.1)
def un_check_scope_stmt_64_0_1_0 (x : X_check_scope_stmt_64_0_1_0) : StD x_check_scope_stmt_64_0_1_0 := (((), ()), (((((x.1, x.2.1, x.2.2.1, x.2.2.2.1, x.2.2.2.2.1, x.2.2.2.2.2.1, x.2.2.2.2.2.2.1, ()), ()), ()), ()), ((((x.2.2.2.2.2.2.2.1, x.2.2.2.2.2.2.2.2.1, x.2.2.2.2.2.2.2.2.2.1, x.2.2.2.2.2.2.2.2.2.2.1, x.2.2.2.2.2.2.2.2.2.2.2.1, x.2.2.2.2.2.2.2.2.2.2.2.2.1, x.2.2.2.2.2.2.2.2.2.2.2.2.2.1, ()), ()), ()), ()), (x.2.2.2.2.2.2.2.2.2.2.2.2.2.2.1, x.2.2.2.2.2.2.2.2.2.2.2.2.2.2.2.1, x.2.2.2.2.2.2.2.2.2.2.2.2.2.2.2.2.1, x.2.2.2.2.2.2.2.2.2.2.2.2.2.2.2.2.2.1, x.2.2.2.2.2.2.2.2.2.2.2.2.2.2.2.2.2.2.1, x.2.2.2.2.2.2.2.2.2.2.2.2.2.2.2.2.2.2.2.1, x.2.2.2.2.2.2.2.2.2.2.2.2.2.2.2.2.2.2.2.2.1, x.2.2.2.2.2.2.2.2.2.2.2.2.2.2.2.2.2.2.2.2.2.1, x.2.2.2.2.2.2.2.2.2.2.2.2.2.2.2.2.2.2.2.2.2.2.1, x.2.2.2.2.2.2.2.2.2.2.2.2.2.2.2.2.2.2.2.2.2.2.2.1, x.2.2.2.2.2.2.2.2.2.2.2.2.2.2.2.2.2.2.2.2.2.2.2.2.1, x.2.2.2.2.2.2.2.2.2.2.2.2.2.2.2.2.2.2.2.2.2.2.2.2.2.1, x.2.2.2.2.2.2.2.2.2.2.2.2.2.2.2.2.2.2.2.2.2.2.2.2.2.2.1, x.2.2.2.2.2.2.2.2.2.2.2.2.2.2.2.2.2.2.2.2.2.2.2.2.2.2.2.1, x.2.2.2.2.2.2.2.2.2.2.2.2.2.2.2.2.2.2.2.2.2.2.2.2.2.2.2.2.1, x.2.2.2.2.2.2.2.2.2.2.2.2.2.2.2.2.2.2.2.2.2.2.2.2.2.2.2.2.2.1, x.2.2.2.2.2.2.2.2.2.2.2.2.2.2.2.2.2.2.2.2.2.2.2.2.2.2.2.2.2.2.1, x.2.2.2.2.2.2.2.2.2.2.2.2.2.2.2.2.2.2.2.2.2.2.2.2.2.2.2.2.2.2.2.1, ()), (x.2.2.2.2.2.2.2.2.2.2.2.2.2.2.2.2.2.2.2.2.2.2.2.2.2.2.2.2.2.2.2.2.1, x.2.2.2.2.2.2.2.2.2.2.2.2.2.2.2.2.2.2.2.2.2.2.2.2.2.2.2.2.2.2.2.2.2.1, x.2.2.2.2.2.2.2.2.2.2.2.2.2.2.2.2.2.2.2.2.2.2.2.2.2.2.2.2.2.2.2.2.2.2.1, x.2.2.2.2.2.2.2.2.2.2.2.2.2.2.2.2.2.2.2.2.2.2.2.2.2.2.2.2.2.2.2.2.2.2.2.1, x.2.2.2.2.2.2.2.2.2.2.2.2.2.2.2.2.2.2.2.2.2.2.2.2.2.2.2.2.2.2.2.2.2.2.2.2.1, x.2.2.2.2.2.2.2.2.2.2.2.2.2.2.2.2.2.2.2.2.2.2.2.2.2.2.2.2.2.2.2.2.2.2.2.2.2.1, x.2.2.2.2.2.2.2.2.2.2.2.2.2.2.2.2.2.2.2.2.2.2.2.2.2.2.2.2.2.2.2.2.2.2.2.2.2.2, ()), ()))
abbrev X_check_scope_stmt_64_0_1_1 := (Int × (List Gb) × (List Gb) × (List ByteArray) × (List Th) × ByteArray × (List ByteArray) × (List (RT.C 2)) × (List Gb) × (List Gb) × (List ByteArray) × (List Th) × ByteArray × (List ByteArray) × (List (RT.C 2)) × Int × ByteArray × Int × Int × Int × ByteArray × (List (RT.C 0)) × Int × Int × Int × ByteArray × (List (RT.C 0)) × Int × Int × (List (RT.C 0)) × (List (RT.C 1)) × (List (RT.C 2)) × (List (RT.C 2)) × (List Gb) × (List Gb) × (List ByteArray) × (List Th) × ByteArray × (List ByteArray) × (List (RT.C 2)))
def fl_check_scope_stmt_64_0_1_1 (d : StD x_check_scope_stmt_64_0_1_1) : X_check_scope_stmt_64_0_1_1 := (d.1.1, d.2.1.1.1.1.1, d.2.1.1.1.1.2.1, d.2.1.1.1.1.2.2.1, d.2.1.1.1.1.2.2.2.1, d.2.1.1.1.1.2.2.2.2.1, d.2.1.1.1.1.2.2.2.2.2.1, d.2.1.1.1.1.2.2.2.2.2.2.1, d.2.2.1.1.1.1.1, d.2.2.1.1.1.1.2.1, d.2.2.1.1.1.1.2.2.1, d.2.2.1.1.1.1.2.2.2.1, d.2.2.1.1.1.1.2.2.2.2.1, d.2.2.1.1.1.1.2.2.2.2.2.1, d.2.2.1.1.1.1.2.2.2.2.2.2.1, d.2.2.2.1.1, d.2.2.2.1.2.1, d.2.2.2.1.2.2.1, d.2.2.2.1.2.2.2.1, d.2.2.2.1.2.2.2.2.1, d.2.2.2.1.2.2.2.2.2.1, d.2.2.2.1.2.2.2.2.2.2.1, d.2.2.2.1.2.2.2.2.2.2.2.1, d.2.2.2.1.2.2.2.2.2.2.2.2.1, d.2.2.2.1.2.2.2.2.2.2.2.2.2.1, d.2.2.2.1.2.2.2.2.2.2.2.2.2.2.1, d.2.2.2.1.2.2.2.2.2.2.2.2.2.2.2.1, d.2.2.2.1.2.2.2.2.2.2.2.2.2.2.2.2.1, d.2.2.2.1.2.2.2.2.2.2.2.2.2.2.2.2.2.1, d.2.2.2.1.2.2.2.2.2.2.2.2.2.2.2.2.2.2.1, d.2.2.2.1.2.2.2.2.2.2.2.2.2.2.2.2.2.2.2.1, d.2.2.2.1.2.2.2.2.2.2.2.2.2.2.2.2.2.2.2.2.1, d.2.2.2.1.2.2.2.2.2.2.2.2.2.2.2.2.2.2.2.2.2.1, d.2.2.2.2.1.1, d.2.2.2.2.1.2.1, d.2.2.2.2.1.2.2.1, d.2.2.2.2.1.2.2.2.1, d.2.2.2.2.1.2.2.2.2.1, d.2.2.2.2.1.2.2.2.2.2.1, d.2.2.2.2.1.2.2.2.2.2.2.1)
def un_check_scope_stmt_64_0_1_1 (x : X_check_scope_stmt_64_0_1_1) : StD x_check_scope_stmt_64_0_1_1 := ((x.1, ()), (((((x.2.1, x.2.2.1, x.2.2.2.1, x.2.2.2.2.1, x.2.2.2.2.2.1, x.2.2.2.2.2.2.1, x.2.2.2.2.2.2.2.1, ()), ()), ()), ()), ((((x.2.2.2.2.2.2.2.2.1, x.2.2.2.2.2.2.2.2.2.1, x.2.2.2.2.2.2.2.2.2.2.1, x.2.2.2.2.2.2.2.2.2.2.2.1, x.2.2.2.2.2.2.2.2.2.2.2.2.1, x.2.2.2.2.2.2.2.2.2.2.2.2.2.1, x.2.2.2.2.2.2.2.2.2.2.2.2.2.2.1, ()), ()), ()), ()), (x.2.2.2.2.2.2.2.2.2.2.2.2.2.2.2.1, x.2.2.2.2.2.2.2.2.2.2.2.2.2.2.2.2.1, x.2.2.2.2.2.2.2.2.2.2.2.2.2.2.2.2.2.1, x.2.2.2.2.2.2.2.2.2.2.2.2.2.2.2.2.2.2.1, x.2.2.2.2.2.2.2.2.2.2.2.2.2.2.2.2.2.2.2.1, x.2.2.2.2.2.2.2.2.2.2.2.2.2.2.2.2.2.2.2.2.1, x.2.2.2.2.2.2.2.2.2.2.2.2.2.2.2.2.2.2.2.2.2.1, x.2.2.2.2.2.2.2.2.2.2.2.2.2.2.2.2.2.2.2.2.2.2.1, x.2.2.2.2.2.2.2.2.2.2.2.2.2.2.2.2.2.2.2.2.2.2.2.1, x.2.2.2.2.2.2.2.2.2.2.2.2.2.2.2.2.2.2.2.2.2.2.2.2.1, x.2.2.2.2.2.2.2.2.2.2.2.2.2.2.2.2.2.2.2.2.2.2.2.2.2.1, x.2.2.2.2.2.2.2.2.2.2.2.2.2.2.2.2.2.2.2.2.2.2.2.2.2.2.1, x.2.2.2.2.2.2.2.2.2.2.2.2.2.2.2.2.2.2.2.2.2.2.2.2.2.2.2.1, x.2.2.2.2.2.2.2.2.2.2.2.2.2.2.2.2.2.2.2.2.2.2.2.2.2.2.2.2.1, x.2.2.2.2.2.2.2.2.2.2.2.2.2.2.2.2.2.2.2.2.2.2.2.2.2.2.2.2.2.1, x.2.2.2.2.2.2.2.2.2.2.2.2.2.2.2.2.2.2.2.2.2.2.2.2.2.2.2.2.2.2.1, x.2.2.2.2.2.2.2.2.2.2.2.2.2.2.2.2.2.2.2.2.2.2.2.2.2.2.2.2.2.2.2.1, x.2.2.2.2.2.2.2.2.2.2.2.2.2.2.2.2.2.2.2.2.2.2.2.2.2.2.2.2.2.2.2.2.1, ()), (x.2.2.2.2.2.2.2.2.2.2.2.2.2.2.2.2.2.2.2.2.2.2.2.2.2.2.2.2.2.2.2.2.2.1, x.2.2.2.2.2.2.2.2.2.2.2.2.2.2.2.2.2.2.2.2.2.2.2.2.2.2.2.2.2.2.2.2.2.2.1, x.2.2.2.2.2.2.2.2.2.2.2.2.2.2.2.2.2.2.2.2.2.2.2.2.2.2.2.2.2.2.2.2.2.2.2.1, x.2.2.2.2.2.2.2.2.2.2.2.2.2.2.2.2.2.2.2.2.2.2.2.2.2.2.2.2.2.2.2.2.2.2.2.2.1, x.2.2.2.2.2.2.2.2.2.2.2.2.2.2.2.2.2.2.2.2.2.2.2.2.2.2.2.2.2.2.2.2.2.2.2.2.2.1, x.2.2.2.2.2.2.2.2.2.2.2.2.2.2.2.2.2.2.2.2.2.2.2.2.2.2.2.2.2.2.2.2.2.2.2.2.2.2.1, x.2.2.2.2.2.2.2.2.2.2.2.2.2.2.2.2.2.2.2.2.2.2.2.2.2.2.2.2.2.2.2.2.2.2.2.2.2.2.2, ()), ()))
noncomputable def st_check_scope_stmt_64_0_1 (s0 : (List (RT.C 2))) (s7 : Int) (s8 : Int) (b3 : (List Gb)) (b3_1 : (List Gb)) (b3_2 : (List ByteArray)) (b3_3 : (List Th)) (b3_4 : ByteArray) (b3_5 : (List ByteArray)) (b3_6 : (List (RT.C 2))) (b2 : (List Gb)) (b2_1 : (List Gb)) (b2_2 : (List ByteArray)) (b2_3 : (List Th)) (b2_4 : ByteArray) (b2_5 : (List ByteArray)) (b2_6 : (List (RT.C 2))) (b1 : Int) (b1_1 : ByteArray) (b1_2 : Int) (b1_3 : Int) (b1_4 : Int) (b1_5 : ByteArray) (b1_6 : (List (RT.C 0))) (b1_7 : Int) (b1_8 : Int) (b1_9 : Int) (b1_10 : ByteArray) (b1_11 : (List (RT.C 0))) (b1_12 : Int) (b1_13 : Int) (b1_14 : (List (RT.C 0))) (b1_15 : (List (RT.C 1))) (b1_16 : (List (RT.C 2))) (b1_17 : (List (RT.C 2))) (b0 : (List Gb)) (b0_1 : (List Gb)) (b0_2 : (List ByteArray)) (b0_3 : (List Th)) (b0_4 : ByteArray) (b0_5 : (List ByteArray)) (b0_6 : (List (RT.C 2))) : Option (((List (RT.C 2)) × Int × Int × (List Gb) × (List Gb) × (List ByteArray) × (List Th) × ByteArray × (List ByteArray) × (List (RT.C 2)) × (List Gb) × (List Gb) × (List ByteArray) × (List Th) × ByteArray × (List ByteArray) × (List (RT.C 2)) × Int × ByteArray × Int × Int × Int × ByteArray × (List (RT.C 0)) × Int × Int × Int × ByteArray × (List (RT.C 0)) × Int × Int × (List (RT.C 0)) × (List (RT.C 1)) × (List (RT.C 2)) × (List (RT.C 2)) × (List Gb) × (List Gb) × (List ByteArray) × (List Th) × ByteArray × (List ByteArray) × (List (RT.C 2))) ⊕ (((List Gb) × (List Gb) × (List ByteArray) × (List Th) × ByteArray × (List ByteArray) × (List (RT.C 2)) × (List Gb) × (List Gb) × (List ByteArray) × (List Th) × ByteArray × (List ByteArray) × (List (RT.C 2)) × Int × ByteArray × Int × Int × Int × ByteArray × (List (RT.C 0)) × Int × Int × Int × ByteArray × (List (RT.C 0)) × Int × Int × (List (RT.C 0)) × (List (RT.C 1)) × (List (RT.C 2)) × (List (RT.C 2)) × (List Gb) × (List Gb) × (List ByteArray) × (List Th) × ByteArray × (List ByteArray) × (List (RT.C 2))) ⊕ (Int × (List Gb) × (List Gb) × (List ByteArray) × (List Th) × ByteArray × (List ByteArray) × (List (RT.C 2)) × (List Gb) × (List Gb) × (List ByteArray) × (List Th) × ByteArray × (List ByteArray) × (List (RT.C 2)) × Int × ByteArray × Int × Int × Int × ByteArray × (List (RT.C 0)) × Int × Int × Int × ByteArray × (List (RT.C 0)) × Int × Int × (List (RT.C 0)) × (List (RT.C 1)) × (List (RT.C 2)) × (List (RT.C 2)) × (List Gb) × (List Gb) × (List ByteArray) × (List Th) × ByteArray × (List ByteArray) × (List (RT.C 2))))) :=
  bif decide (s8 < s7) then
 bif decide (0 ≤ s8) then
 optC s0[s8.toNat]? none fun d46 ↦
 optC (Rec_check_scope_stmt.K (((b3, b3_1, b3_2, b3_3), b3_4, b3_5, b3_6), uT2 d46, ())) none fun d47 ↦
 bif !d47 then
 some
 (Sum.inr
 (Sum.inr
 (s8, b3, b3_1, b3_2, b3_3, b3_4, b3_5, b3_6, b2, b2_1, b2_2, b2_3, b2_4, b2_5, b2_6, b1, b1_1, b1_2, b1_3, b1_4, b1_5, b1_6, b1_7, b1_8, b1_9, b1_10, b1_11, b1_12, b1_13, b1_14, b1_15,
 b1_16, b1_17, b0, b0_1, b0_2, b0_3, b0_4, b0_5, b0_6)))
 else
 some
 (Sum.inl
 (s0, s7, Go.IntKind.i64.wrap (s8 + 1), b3, b3_1, b3_2, b3_3, b3_4, b3_5, b3_6, b2, b2_1, b2_2, b2_3, b2_4, b2_5, b2_6, b1, b1_1, b1_2, b1_3, b1_4, b1_5, b1_6, b1_7, b1_8, b1_9, b1_10,
 b1_11, b1_12, b1_13, b1_14, b1_15, b1_16, b1_17, b0, b0_1, b0_2, b0_3, b0_4, b0_5, b0_6))
 else none
 else
 some
 (Sum.inr
 (Sum.inl
 (b3, b3_1, b3_2, b3_3, b3_4, b3_5, b3_6, b2, b2_1, b2_2, b2_3, b2_4, b2_5, b2_6, b1, b1_1, b1_2, b1_3, b1_4, b1_5, b1_6, b1_7, b1_8, b1_9, b1_10, b1_11, b1_12, b1_13, b1_14, b1_15, b1_16,
 b1_17, b0, b0_1, b0_2, b0_3, b0_4, b0_5, b0_6)))
noncomputable def sx_check_scope_stmt_64_0_1 (x : X_check_scope_stmt_64_0_1) : Option (X_check_scope_stmt_64_0_1 ⊕ (X_check_scope_stmt_64_0_1_0 ⊕ X_check_scope_stmt_64_0_1_1)) := st_check_scope_stmt_64_0_1 x.1 x.2.1 x.2.2.1 x.2.2.2.1 x.2.2.2.2.1 x.2.2.2.2.2.1 x.2.2.2.2.2.2.1 x.2.2.2.2.2.2.2.1 x.2.2.2.2.2.2.2.2.1 x.2.2.2.2.2.2.2.2.2.1 x.2.2.2.2.2.2.2.2.2.2.1 x.2.2.2.2.2.2.2.2.2.2.2.1 x.2.2.2.2.2.2.2.2.2.2.2.2.1 x.2.2.2.2.2.2.2.2.2.2.2.2.2.1 x.2.2.2.2.2.2.2.2.2.2.2.2.2.2.1 x.2.2.2.2.2.2.2.2.2.2.2.2.2.2.2.1 x.2.2.2.2.2.2.2.2.2.2.2.2.2.2.2.2.1 x.2.2.2.2.2.2.2.2.2.2.2.2.2.2.2.2.2.1 x.2.2.2.2.2.2.2.2.2.2.2.2.2.2.2.2.2.2.1 x.2.2.2.2.2.2.2.2.2.2.2.2.2.2.2.2.2.2.2.1 x.2.2.2.2.2.2.2.2.2.2.2.2.2.2.2.2.2.2.2.2.1 x.2.2.2.2.2.2.2.2.2.2.2.2.2.2.2.2.2.2.2.2.2.1 x.2.2.2.2.2.2.2.2.2.2.2.2.2.2.2.2.2.2.2.2.2.2.1 x.2.2.2.2.2.2.2.2.2.2.2.2.2.2.2.2.2.2.2.2.2.2.2.1 x.2.2.2.2.2.2.2.2.2.2.2.2.2.2.2.2.2.2.2.2.2.2.2.2.1 x.2.2.2.2.2.2.2.2.2.2.2.2.2.2.2.2.2.2.2.2.2.2.2.2.2.1 x.2.2.2.2.2.2.2.2.2.2.2.2.2.2.2.2.2.2.2.2.2.2.2.2.2.2.1 x.2.2.2.2.2.2.2.2.2.2.2.2.2.2.2.2.2.2.2.2.2.2.2.2.2.2.2.1 x.2.2.2.2.2.2.2.2.2.2.2.2.2.2.2.2.2.2.2.2.2.2.2.2.2.2.2.2.1 x.2.2.2.2.2.2.2.2.2.2.2.2.2.2.2.2.2.2.2.2.2.2.2.2.2.2.2.2.2.1 x.2.2.2.2.2.2.2.2.2.2.2.2.2.2.2.2.2.2.2.2.2.2.2.2.2.2.2.2.2.2.1 x.2.2.2.2.2.2.2.2.2.2.2.2.2.2.2.2.2.2.2.2.2.2.2.2.2.2.2.2.2.2.2.1 x.2.2.2.2.2.2.2.2.2.2.2.2.2.2.2.2.2.2.2.2.2.2.2.2.2.2.2.2.2.2.2.2.1 x.2.2.2.2.2.2.2.2.2.2.2.2.2.2.2.2.2.2.2.2.2.2.2.2.2.2.2.2.2.2.2.2.2.1 x.2.2.2.2.2.2.2.2.2.2.2.2.2.2.2.2.2.2.2.2.2.2.2.2.2.2.2.2.2.2.2.2.2.2.1 x.2.2.2.2.2.2.2.2.2.2.2.2.2.2.2.2.2.2.2.2.2.2.2.2.2.2.2.2.2.2.2.2.2.2.2.1 x.2.2.2.2.2.2.2.2.2.2.2.2.2.2.2.2.2.2.2.2.2.2.2.2.2.2.2.2.2.2.2.2.2.2.2.2.1 x.2.2.2.2.2.2.2.2.2.2.2.2.2.2.2.2.2.2.2.2.2.2.2.2.2.2.2.2.2.2.2.2.2.2.2.2.2.1 x.2.2.2.2.2.2.2.2.2.2.2.2.2.2.2.2.2.2.2.2.2.2.2.2.2.2.2.2.2.2.2.2.2.2.2.2.2.2.1 x.2.2.2.2.2.2.2.2.2.2.2.2.2.2.2.2.2.2.2.2.2.2.2.2.2.2.2.2.2.2.2.2.2.2.2.2.2.2.2.1 x.2.2.2.2.2.2.2.2.2.2.2.2.2.2.2.2.2.2.2.2.2.2.2.2.2.2.2.2.2.2.2.2.2.2.2.2.2.2.2.2.1 x.2.2.2.2.2.2.2.2.2.2.2.2.2.2.2.2.2.2.2.2.2.2.2.2.2.2.2.2.2.2.2.2.2.2.2.2.2.2.2.2.2
theorem rn_check_scope_stmt_64_0_1 (x : X_check_scope_stmt_64_0_1) : rdX (cxU sp_check_scope_stmt [] 40 (1048576 ^ 9)) keeps 8 ⟨64, 19, keeps 64, 4⟩ 0 (bodyX 64 0) 4 kp_check_scope_stmt_64_0 (sT s_check_scope_stmt_64_0_1 (un_check_scope_stmt_64_0_1 x)) (sH s_check_scope_stmt_64_0_1 (un_check_scope_stmt_64_0_1 x)) (rdO (fun T h => (rdS s_check_scope_stmt_64_0_1 T h).map fl_check_scope_stmt_64_0_1) (getOr (getE 2 x_check_scope_stmt_64_0_1_0 fl_check_scope_stmt_64_0_1_0) (getE 1 x_check_scope_stmt_64_0_1_1 fl_check_scope_stmt_64_0_1_1))) = sx_check_scope_stmt_64_0_1 x := by kernel_rfl
noncomputable def L_check_scope_stmt_64_0_1 (x : X_check_scope_stmt_64_0_1) : Option (X_check_scope_stmt_64_0_1_0 ⊕ X_check_scope_stmt_64_0_1_1) := iterO (fun x => st_check_scope_stmt_64_0_1 x.1 x.2.1 x.2.2.1 x.2.2.2.1 x.2.2.2.2.1 x.2.2.2.2.2.1 x.2.2.2.2.2.2.1 x.2.2.2.2.2.2.2.1 x.2.2.2.2.2.2.2.2.1 x.2.2.2.2.2.2.2.2.2.1 x.2.2.2.2.2.2.2.2.2.2.1 x.2.2.2.2.2.2.2.2.2.2.2.1 x.2.2.2.2.2.2.2.2.2.2.2.2.1 x.2.2.2.2.2.2.2.2.2.2.2.2.2.1 x.2.2.2.2.2.2.2.2.2.2.2.2.2.2.1 x.2.2.2.2.2.2.2.2.2.2.2.2.2.2.2.1 x.2.2.2.2.2.2.2.2.2.2.2.2.2.2.2.2.1 x.2.2.2.2.2.2.2.2.2.2.2.2.2.2.2.2.2.1 x.2.2.2.2.2.2.2.2.2.2.2.2.2.2.2.2.2.2.1 x.2.2.2.2.2.2.2.2.2.2.2.2.2.2.2.2.2.2.2.1 x.2.2.2.2.2.2.2.2.2.2.2.2.2.2.2.2.2.2.2.2.1 x.2.2.2.2.2.2.2.2.2.2.2.2.2.2.2.2.2.2.2.2.2.1 x.2.2.2.2.2.2.2.2.2.2.2.2.2.2.2.2.2.2.2.2.2.2.1 x.2.2.2.2.2.2.2.2.2.2.2.2.2.2.2.2.2.2.2.2.2.2.2.1 x.2.2.2.2.2.2.2.2.2.2.2.2.2.2.2.2.2.2.2.2.2.2.2.2.1 x.2.2.2.2.2.2.2.2.2.2.2.2.2.2.2.2.2.2.2.2.2.2.2.2.2.1 x.2.2.2.2.2.2.2.2.2.2.2.2.2.2.2.2.2.2.2.2.2.2.2.2.2.2.1 x.2.2.2.2.2.2.2.2.2.2.2.2.2.2.2.2.2.2.2.2.2.2.2.2.2.2.2.1 x.2.2.2.2.2.2.2.2.2.2.2.2.2.2.2.2.2.2.2.2.2.2.2.2.2.2.2.2.1 x.2.2.2.2.2.2.2.2.2.2.2.2.2.2.2.2.2.2.2.2.2.2.2.2.2.2.2.2.2.1 x.2.2.2.2.2.2.2.2.2.2.2.2.2.2.2.2.2.2.2.2.2.2.2.2.2.2.2.2.2.2.1 x.2.2.2.2.2.2.2.2.2.2.2.2.2.2.2.2.2.2.2.2.2.2.2.2.2.2.2.2.2.2.2.1 x.2.2.2.2.2.2.2.2.2.2.2.2.2.2.2.2.2.2.2.2.2.2.2.2.2.2.2.2.2.2.2.2.1 x.2.2.2.2.2.2.2.2.2.2.2.2.2.2.2.2.2.2.2.2.2.2.2.2.2.2.2.2.2.2.2.2.2.1 x.2.2.2.2.2.2.2.2.2.2.2.2.2.2.2.2.2.2.2.2.2.2.2.2.2.2.2.2.2.2.2.2.2.2.1 x.2.2.2.2.2.2.2.2.2.2.2.2.2.2.2.2.2.2.2.2.2.2.2.2.2.2.2.2.2.2.2.2.2.2.2.1 x.2.2.2.2.2.2.2.2.2.2.2.2.2.2.2.2.2.2.2.2.2.2.2.2.2.2.2.2.2.2.2.2.2.2.2.2.1 x.2.2.2.2.2.2.2.2.2.2.2.2.2.2.2.2.2.2.2.2.2.2.2.2.2.2.2.2.2.2.2.2.2.2.2.2.2.1 x.2.2.2.2.2.2.2.2.2.2.2.2.2.2.2.2.2.2.2.2.2.2.2.2.2.2.2.2.2.2.2.2.2.2.2.2.2.2.1 x.2.2.2.2.2.2.2.2.2.2.2.2.2.2.2.2.2.2.2.2.2.2.2.2.2.2.2.2.2.2.2.2.2.2.2.2.2.2.2.1 x.2.2.2.2.2.2.2.2.2.2.2.2.2.2.2.2.2.2.2.2.2.2.2.2.2.2.2.2.2.2.2.2.2.2.2.2.2.2.2.2.1 x.2.2.2.2.2.2.2.2.2.2.2.2.2.2.2.2.2.2.2.2.2.2.2.2.2.2.2.2.2.2.2.2.2.2.2.2.2.2.2.2.2) FUEL x
def s_check_scope_stmt_64_0_0 : StS := ⟨[(0, .sl (.mu 2)), (1, .clo 37 [] [.ptr 2 0]), (7, .int .i64), (8, .int .i64)], [(2, .box [.clo 16 [.agg [.sl tGb, .sl tGb, .sl .str, .sl tTh, .str, .sl .str, .sl (.mu 2)]] []]), (1, .box [.int .i64, .str, .int .i64, .int .i64, .int .i64, .str, .sl (.mu 0), .int .i64, .int .i64, .int .i64, .str, .sl (.mu 0), .int .i64, .int .i64, .sl (.mu 0), .sl (.mu 1), .sl (.mu 2), .sl (.mu 2)]), (0, .box [.sl tGb, .sl tGb, .sl .str, .sl tTh, .str, .sl .str, .sl (.mu 2)])], 3⟩
def x_check_scope_stmt_64_0_0_0 : StS := ⟨[(4, .undef)], [(2, .box [.clo 16 [.agg [.sl tGb, .sl tGb, .sl .str, .sl tTh, .str, .sl .str, .sl (.mu 2)]] []]), (1, .box [.int .i64, .str, .int .i64, .int .i64, .int .i64, .str, .sl (.mu 0), .int .i64, .int .i64, .int .i64, .str, .sl (.mu 0), .int .i64, .int .i64, .sl (.mu 0), .sl (.mu 1), .sl (.mu 2), .sl (.mu 2)]), (0, .box [.sl tGb, .sl tGb, .sl .str, .sl tTh, .str, .sl .str, .sl (.mu 2)])], 3⟩
def x_check_scope_stmt_64_0_0_1 : StS := ⟨[(4, .int .i64)], [(2, .box [.clo 16 [.agg [.sl tGb, .sl tGb, .sl .str, .sl tTh, .str, .sl .str, .sl (.mu 2)]] []]), (1, .box [.int .i64, .str, .int .i64, .int .i64, .int .i64, .str, .sl (.mu 0), .int .i64, .int .i64, .int .i64, .str, .sl (.mu 0), .int .i64, .int .i64, .sl (.mu 0), .sl (.mu 1), .sl (.mu 2), .sl (.mu 2)]), (0, .box [.sl tGb, .sl tGb, .sl .str, .sl tTh, .str, .sl .str, .sl (.mu 2)])], 3⟩
abbrev X_check_scope_stmt_64_0_0 := ((List (RT.C 2)) × Int × Int × (List Gb) × (List Gb) × (List ByteArray) × (List Th) × ByteArray × (List ByteArray) × (List (RT.C 2)) × Int × ByteArray × Int × Int × Int × ByteArray × (List (RT.C 0)) × Int × Int × Int × ByteArray × (List (RT.C 0)) × Int × Int × (List (RT.C 0)) × (List (RT.C 1)) × (List (RT.C 2)) × (List (RT.C 2)) × (List Gb) × (List Gb) × (List ByteArray) × (List Th) × ByteArray × (List ByteArray) × (List (RT.C 2)))
def fl_check_scope_stmt_64_0_0 (d : StD s_check_scope_stmt_64_0_0) : X_check_scope_stmt_64_0_0 := (d.1.1, d.1.2.2.1, d.1.2.2.2.1, d.2.1.1.1.1.1, d.2.1.1.1.1.2.1, d.2.1.1.1.1.2.2.1, d.2.1.1.1.1.2.2.2.1, d.2.1.1.1.1.2.2.2.2.1, d.2.1.1.1.1.2.2.2.2.2.1, d.2.1.1.1.1.2.2.2.2.2.2.1, d.2.2.1.1, d.2.2.1.2.1, d.2.2.1.2.2.1, d.2.2.1.2.2.2.1, d.2.2.1.2.2.2.2.1, d.2.2.1.2.2.2.2.2.1, d.2.2.1.2.2.2.2.2.2.1, d.2.2.1.2.2.2.2.2.2.2.1, d.2.2.1.2.2.2.2.2.2.2.2.1, d.2.2.1.2.2.2.2.2.2.2.2.2.1, d.2.2.1.2.2.2.2.2.2.2.2.2.2.1, d.2.2.1.2.2.2.2.2.2.2.2.2.2.2.1, d.2.2.1.2.2.2.2.2.2.2.2.2.2.2.2.1, d.2.2.1.2.2.2.2.2.2.2.2.2.2.2.2.2.1, d.2.2.1.2.2.2.2.2.2.2.2.2.2.2.2.2.2.1, d.2.2.1.2.2.2.2.2.2.2.2.2.2.2.2.2.2.2.1, d.2.2.1.2.2.2.2.2.2.2.2.2.2.2.2.2.2.2.2.1, d.2.2.1.2.2.2.2.2.2.2.2.2.2.2.2.2.2.2.2.2.1, d.2.2.2.1.1, d.2.2.2.1.2.1, d.2.2.2.1.2.2.1, d.2.2.2.1.2.2.2.1, d.2.2.2.1.2.2.2.2.1, d.2.2.2.1.2.2.2.2.2.1, d.2.2.2.1.2.2.2.2.2.2.1)
def un_check_scope_stmt_64_0_0 (x : X_check_scope_stmt_64_0_0) : StD s_check_scope_stmt_64_0_0 := ((x.1, ((), ((), ())), x.2.1, x.2.2.1, ()), (((((x.2.2.2.1, x.2.2.2.2.1, x.2.2.2.2.2.1, x.2.2.2.2.2.2.1, x.2.2.2.2.2.2.2.1, x.2.2.2.2.2.2.2.2.1, x.2.2.2.2.2.2.2.2.2.1, ()), ()), ()), ()), (x.2.2.2.2.2.2.2.2.2.2.1, x.2.2.2.2.2.2.2.2.2.2.2.1, x.2.2.2.2.2.2.2.2.2.2.2.2.1, x.2.2.2.2.2.2.2.2.2.2.2.2.2.1, x.2.2.2.2.2.2.2.2.2.2.2.2.2.2.1, x.2.2.2.2.2.2.2.2.2.2.2.2.2.2.2.1, x.2.2.2.2.2.2.2.2.2.2.2.2.2.2.2.2.1, x.2.2.2.2.2.2.2.2.2.2.2.2.2.2.2.2.2.1, x.2.2.2.2.2.2.2.2.2.2.2.2.2.2.2.2.2.2.1, x.2.2.2.2.2.2.2.2.2.2.2.2.2.2.2.2.2.2.2.1, x.2.2.2.2.2.2.2.2.2.2.2.2.2.2.2.2.2.2.2.2.1, x.2.2.2.2.2.2.2.2.2.2.2.2.2.2.2.2.2.2.2.2.2.1, x.2.2.2.2.2.2.2.2.2.2.2.2.2.2.2.2.2.2.2.2.2.2.1, x.2.2.2.2.2.2.2.2.2.2.2.2.2.2.2.2.2.2.2.2.2.2.2.1, x.2.2.2.2.2.2.2.2.2.2.2.2.2.2.2.2.2.2.2.2.2.2.2.2.1, x.2.2.2.2.2.2.2.2.2.2.2.2.2.2.2.2.2.2.2.2.2.2.2.2.2.1, x.2.2.2.2.2.2.2.2.2.2.2.2.2.2.2.2.2.2.2.2.2.2.2.2.2.2.1, x.2.2.2.2.2.2.2.2.2.2.2.2.2.2.2.2.2.2.2.2.2.2.2.2.2.2.2.1, ()), (x.2.2.2.2.2.2.2.2.2.2.2.2.2.2.2.2.2.2.2.2.2.2.2.2.2.2.2.2.1, x.2.2.2.2.2.2.2.2.2.2.2.2.2.2.2.2.2.2.2.2.2.2.2.2.2.2.2.2.2.1, x.2.2.2.2.2.2.2.2.2.2.2.2.2.2.2.2.2.2.2.2.2.2.2.2.2.2.2.2.2.2.1, x.2.2.2.2.2.2.2.2.2.2.2.2.2.2.2.2.2.2.2.2.2.2.2.2.2.2.2.2.2.2.2.1, x.2.2.2.2.2.2.2.2.2.2.2.2.2.2.2.2.2.2.2.2.2.2.2.2.2.2.2.2.2.2.2.2.1, x.2.2.2.2.2.2.2.2.2.2.2.2.2.2.2.2.2.2.2.2.2.2.2.2.2.2.2.2.2.2.2.2.2.1, x.2.2.2.2.2.2.2.2.2.2.2.2.2.2.2.2.2.2.2.2.2.2.2.2.2.2.2.2.2.2.2.2.2.2, ()), ()))
abbrev X_check_scope_stmt_64_0_0_0 := ((List Gb) × (List Gb) × (List ByteArray) × (List Th) × ByteArray × (List ByteArray) × (List (RT.C 2)) × Int × ByteArray × Int × Int × Int × ByteArray × (List (RT.C 0)) × Int × Int × Int × ByteArray × (List (RT.C 0)) × Int × Int × (List (RT.C 0)) × (List (RT.C 1)) × (List (RT.C 2)) × (List (RT.C 2)) × (List Gb) × (List Gb) × (List ByteArray) × (List Th) × ByteArray × (List ByteArray) × (List (RT.C 2)))
def fl_check_scope_stmt_64_0_0_0 (d : StD x_check_scope_stmt_64_0_0_0) : X_check_scope_stmt_64_0_0_0 := (d.2.1.1.1.1.1, d.2.1.1.1.1.2.1, d.2.1.1.1.1.2.2.1, d.2.1.1.1.1.2.2.2.1, d.2.1.1.1.1.2.2.2.2.1, d.2.1.1.1.1.2.2.2.2.2.1, d.2.1.1.1.1.2.2.2.2.2.2.1, d.2.2.1.1, d.2.2.1.2.1, d.2.2.1.2.2.1, d.2.2.1.2.2.2.1, d.2.2.1.2.2.2.2.1, d.2.2.1.2.2.2.2.2.1, d.2.2.1.2.2.2.2.2.2.1, d.2.2.1.2.2.2.2.2.2.2.1, d.2.2.1.2.2.2.2.2.2.2.2.1, d.2.2.1.2.2.2.2.2.2.2.2.2.1, d.2.2.1.2.2.2.2.2.2.2.2.2.2.1, d.2.2.1.2.2.2.2.2.2.2.2.2.2.2.1, d.2.2.1.2.2.2.2.2.2.2.2.2.2.2.2.1, d.2.2.1.2.2.2.2.2.2.2.2.2.2.2.2.2.1, d.2.2.1.2.2.2.2.2.2.2.2.2.2.2.2.2.2.1, d.2.2.1.2.2.2.2.2.2.2.2.2.2.2.2.2.2.2.1, d.2.2.1.2.2.2.2.2.2.2.2.2.2.2.2.2.2.2.2.1, d.2.2.1.2.2.2.2.2.2.2.2.2.2.2.2.2.2.2.2.2.1, d.2.2.2.1.1, d.2.2.2.1.2.1, d.2.2.2.1.2.2.1, d.2.2.2.1.2.2.2.1, d.2.2.2.1.2.2.2.2.1, d.2.2.2.1.2.2.2.2.2.1, d.2.2.2.1.2.2.2.2.2.2.1)
def un_check_scope_stmt_64_0_0_0 (x : X_check_scope_stmt_64_0_0_0) : StD x_check_scope_stmt_64_0_0_0 := (((), ()), (((((x.1, x.2.1, x.2.2.1, x.2.2.2.1, x.2.2.2.2.1, x.2.2.2.2.2.1, x.2.2.2.2.2.2.1, ()), ()), ()), ()), (x.2.2.2.2.2.2.2.1, x.2.2.2.2.2.2.2.2.1, x.2.2.2.2.2.2.2.2.2.1, x.2.2.2.2.2.2.2.2.2.2.1, x.2.2.2.2.2.2.2.2.2.2.2.1, x.2.2.2.2.2.2.2.2.2.2.2.2.1, x.2.2.2.2.2.2.2.2.2.2.2.2.2.1, x.2.2.2.2.2.2.2.2.2.2.2.2.2.2.1, x.2.2.2.2.2.2.2.2.2.2.2.2.2.2.2.1, x.2.2.2.2.2.2.2.2.2.2.2.2.2.2.2.2.1, x.2.2.2.2.2.2.2.2.2.2.2.2.2.2.2.2.2.1, x.2.2.2.2.2.2.2.2.2.2.2.2.2.2.2.2.2.2.1, x.2.2.2.2.2.2.2.2.2.2.2.2.2.2.2.2.2.2.2.1, x.2.2.2.2.2.2.2.2.2.2.2.2.2.2.2.2.2.2.2.2.1, x.2.2.2.2.2.2.2.2.2.2.2.2.2.2.2.2.2.2.2.2.2.1, x.2.2.2.2.2.2.2.2.2.2.2.2.2.2.2.2.2.2.2.2.2.2.1, x.2.2.2.2.2.2.2.2.2.2.2.2.2.2.2.2.2.2.2.2.2.2.2.1, x.2.2.2.2.2.2.2.2.2.2.2.2.2.2.2.2.2.2.2.2.2.2.2.2.1, ()), (x.2.2.2.2.2.2.2.2.2.2.2.2.2.2.2.2.2.2.2.2.2.2.2.2.2.1, x.2.2.2.2.2.2.2.2.2.2.2.2.2.2.2.2.2.2.2.2.2.2.2.2.2.2.1, x.2.2.2.2.2.2.2.2.2.2.2.2.2.2.2.2.2.2.2.2.2.2.2.2.2.2.2.1, x.2.2.2.2.2.2.2.2.2.2.2.2.2.2.2.2.2.2.2.2.2.2.2.2.2.2.2.2.1, x.2.2.2.2.2.2.2.2.2.2.2.2.2.2.2.2.2.2.2.2.2.2.2.2.2.2.2.2.2.1, x.2.2.2.2.2.2.2.2.2.2.2.2.2.2.2.2.2.2.2.2.2.2.2.2.2.2.2.2.2.2.1, x.2.2.2.2.2.2.2.2.2.2.2.2.2.2.2.2.2.2.2.2.2.2.2.2.2.2.2.2.2.2.2, ()), ()))
abbrev X_check_scope_stmt_64_0_0_1 := (Int × (List Gb) × (List Gb) × (List ByteArray) × (List Th) × ByteArray × (List ByteArray) × (List (RT.C 2)) × Int × ByteArray × Int × Int × Int × ByteArray × (List (RT.C 0)) × Int × Int × Int × ByteArray × (List (RT.C 0)) × Int × Int × (List (RT.C 0)) × (List (RT.C 1)) × (List (RT.C 2)) × (List (RT.C 2)) × (List Gb) × (List Gb) × (List ByteArray) × (List Th) × ByteArray × (List ByteArray) × (List (RT.C 2)))
def fl_check_scope_stmt_64_0_0_1 (d : StD x_check_scope_stmt_64_0_0_1) : X_check_scope_stmt_64_0_0_1 := (d.1.1, d.2.1.1.1.1.1, d.2.1.1.1.1.2.1, d.2.1.1.1.1.2.2.1, d.2.1.1.1.1.2.2.2.1, d.2.1.1.1.1.2.2.2.2.1, d.2.1.1.1.1.2.2.2.2.2.1, d.2.1.1.1.1.2.2.2.2.2.2.1, d.2.2.1.1, d.2.2.1.2.1, d.2.2.1.2.2.1, d.2.2.1.2.2.2.1, d.2.2.1.2.2.2.2.1, d.2.2.1.2.2.2.2.2.1, d.2.2.1.2.2.2.2.2.2.1, d.2.2.1.2.2.2.2.2.2.2.1, d.2.2.1.2.2.2.2.2.2.2.2.1, d.2.2.1.2.2.2.2.2.2.2.2.2.1, d.2.2.1.2.2.2.2.2.2.2.2.2.2.1, d.2.2.1.2.2.2.2.2.2.2.2.2.2.2.1, d.2.2.1.2.2.2.2.2.2.2.2.2.2.2.2.1, d.2.2.1.2.2.2.2.2.2.2.2.2.2.2.2.2.1, d.2.2.1.2.2.2.2.2.2.2.2.2.2.2.2.2.2.1, d.2.2.1.2.2.2.2.2.2.2.2.2.2.2.2.2.2.2.1, d.2.2.1.2.2.2.2.2.2.2.2.2.2.2.2.2.2.2.2.1, d.2.2.1.2.2.2.2.2.2.2.2.2.2.2.2.2.2.2.2.2.1, d.2.2.2.1.1, d.2.2.2.1.2.1, d.2.2.2.1.2.2.1, d.2.2.2.1.2.2.2.1, d.2.2.2.1.2.2.2.2.1, d.2.2.2.1.2.2.2.2.2.1, d.2.2.2.1.2.2.2.2.2.2.1)
def un_check_scope_stmt_64_0_0_1 (x : X_check_scope_stmt_64_0_0_1) : StD x_check_scope_stmt_64_0_0_1 := ((x.1, ()), (((((x.2.1, x.2.2.1, x.2.2.2.1, x.2.2.2.2.1, x.2.2.2.2.2.1, x.2.2.2.2.2.2.1, x.2.2.2.2.2.2.2.1, ()), ()), ()), ()), (x.2.2.2.2.2.2.2.2.1, x.2.2.2.2.2.2.2.2.2.1, x.2.2.2.2.2.2.2.2.2.2.1, x.2.2.2.2.2.2.2.2.2.2.2.1, x.2.2.2.2.2.2.2.2.2.2.2.2.1, x.2.2.2.2.2.2.2.2.2.2.2.2.2.1, x.2.2.2.2.2.2.2.2.2.2.2.2.2.2.1, x.2.2.2.2.2.2.2.2.2.2.2.2.2.2.2.1, x.2.2.2.2.2.2.2.2.2.2.2.2.2.2.2.2.1, x.2.2.2.2.2.2.2.2.2.2.2.2.2.2.2.2.2.1, x.2.2.2.2.2.2.2.2.2.2.2.2.2.2.2.2.2.2.1, x.2.2.2.2.2.2.2.2.2.2.2.2.2.2.2.2.2.2.2.1, x.2.2.2.2.2.2.2.2.2.2.2.2.2.2.2.2.2.2.2.2.1, x.2.2.2.2.2.2.2.2.2.2.2.2.2.2.2.2.2.2.2.2.2.1, x.2.2.2.2.2.2.2.2.2.2.2.2.2.2.2.2.2.2.2.2.2.2.1, x.2.2.2.2.2.2.2.2.2.2.2.2.2.2.2.2.2.2.2.2.2.2.2.1, x.2.2.2.2.2.2.2.2.2.2.2.2.2.2.2.2.2.2.2.2.2.2.2.2.1, x.2.2.2.2.2.2.2.2.2.2.2.2.2.2.2.2.2.2.2.2.2.2.2.2.2.1, ()), (x.2.2.2.2.2.2.2.2.2.2.2.2.2.2.2.2.2.2.2.2.2.2.2.2.2.2.1, x.2.2.2.2.2.2.2.2.2.2.2.2.2.2.2.2.2.2.2.2.2.2.2.2.2.2.2.1, x.2.2.2.2.2.2.2.2.2.2.2.2.2.2.2.2.2.2.2.2.2.2.2.2.2.2.2.2.1, x.2.2.2.2.2.2.2.2.2.2.2.2.2.2.2.2.2.2.2.2.2.2.2.2.2.2.2.2.2.1, x.2.2.2.2.2.2.2.2.2.2.2.2.2.2.2.2.2.2.2.2.2.2.2.2.2.2.2.2.2.2.1, x.2.2.2.2.2.2.2.2.2.2.2.2.2.2.2.2.2.2.2.2.2.2.2.2.2.2.2.2.2.2.2.1, x.2.2.2.2.2.2.2.2.2.2.2.2.2.2.2.2.2.2.2.2.2.2.2.2.2.2.2.2.2.2.2.2, ()), ()))
noncomputable def st_check_scope_stmt_64_0_0 (s0 : (List (RT.C 2))) (s7 : Int) (s8 : Int) (b2 : (List Gb)) (b2_1 : (List Gb)) (b2_2 : (List ByteArray)) (b2_3 : (List Th)) (b2_4 : ByteArray) (b2_5 : (List ByteArray)) (b2_6 : (List (RT.C 2))) (b1 : Int) (b1_1 : ByteArray) (b1_2 : Int) (b1_3 : Int) (b1_4 : Int) (b1_5 : ByteArray) (b1_6 : (List (RT.C 0))) (b1_7 : Int) (b1_8 : Int) (b1_9 : Int) (b1_10 : ByteArray) (b1_11 : (List (RT.C 0))) (b1_12 : Int) (b1_13 : Int) (b1_14 : (List (RT.C 0))) (b1_15 : (List (RT.C 1))) (b1_16 : (List (RT.C 2))) (b1_17 : (List (RT.C 2))) (b0 : (List Gb)) (b0_1 : (List Gb)) (b0_2 : (List ByteArray)) (b0_3 : (List Th)) (b0_4 : ByteArray) (b0_5 : (List ByteArray)) (b0_6 : (List (RT.C 2))) : Option (((List (RT.C 2)) × Int × Int × (List Gb) × (List Gb) × (List ByteArray) × (List Th) × ByteArray × (List ByteArray) × (List (RT.C 2)) × Int × ByteArray × Int × Int × Int × ByteArray × (List (RT.C 0)) × Int × Int × Int × ByteArray × (List (RT.C 0)) × Int × Int × (List (RT.C 0)) × (List (RT.C 1)) × (List (RT.C 2)) × (List (RT.C 2)) × (List Gb) × (List Gb) × (List ByteArray) × (List Th) × ByteArray × (List ByteArray) × (List (RT.C 2))) ⊕ (((List Gb) × (List Gb) × (List ByteArray) × (List Th) × ByteArray × (List ByteArray) × (List (RT.C 2)) × Int × ByteArray × Int × Int × Int × ByteArray × (List (RT.C 0)) × Int × Int × Int × ByteArray × (List (RT.C 0)) × Int × Int × (List (RT.C 0)) × (List (RT.C 1)) × (List (RT.C 2)) × (List (RT.C 2)) × (List Gb) × (List Gb) × (List ByteArray) × (List Th) × ByteArray × (List ByteArray) × (List (RT.C 2))) ⊕ (Int × (List Gb) × (List Gb) × (List ByteArray) × (List Th) × ByteArray × (List ByteArray) × (List (RT.C 2)) × Int × ByteArray × Int × Int × Int × ByteArray × (List (RT.C 0)) × Int × Int × Int × ByteArray × (List (RT.C 0)) × Int × Int × (List (RT.C 0)) × (List (RT.C 1)) × (List (RT.C 2)) × (List (RT.C 2)) × (List Gb) × (List Gb) × (List ByteArray) × (List Th) × ByteArray × (List ByteArray) × (List (RT.C 2))))) :=
  bif decide (s8 < s7) then
 bif decide (0 ≤ s8) then
 optC s0[s8.toNat]? none fun d39 ↦
 optC (Rec_check_scope_stmt.K (((b2, b2_1, b2_2, b2_3), b2_4, b2_5, b2_6), uT2 d39, ())) none fun d40 ↦
 bif !d40 then
 some
 (Sum.inr
 (Sum.inr
 (s8, b2, b2_1, b2_2, b2_3, b2_4, b2_5, b2_6, b1, b1_1, b1_2, b1_3, b1_4, b1_5, b1_6, b1_7, b1_8, b1_9, b1_10, b1_11, b1_12, b1_13, b1_14, b1_15, b1_16, b1_17, b0, b0_1, b0_2, b0_3,
 b0_4, b0_5, b0_6)))
 else
 some
 (Sum.inl
 (s0, s7, Go.IntKind.i64.wrap (s8 + 1), b2, b2_1, b2_2, b2_3, b2_4, b2_5, b2_6, b1, b1_1, b1_2, b1_3, b1_4, b1_5, b1_6, b1_7, b1_8, b1_9, b1_10, b1_11, b1_12, b1_13, b1_14, b1_15, b1_16,
 b1_17, b0, b0_1, b0_2, b0_3, b0_4, b0_5, b0_6))
 else none
 else
 some
 (Sum.inr
 (Sum.inl
 (b2, b2_1, b2_2, b2_3, b2_4, b2_5, b2_6, b1, b1_1, b1_2, b1_3, b1_4, b1_5, b1_6, b1_7, b1_8, b1_9, b1_10, b1_11, b1_12, b1_13, b1_14, b1_15, b1_16, b1_17, b0, b0_1, b0_2, b0_3, b0_4, b0_5,
 b0_6)))
noncomputable def sx_check_scope_stmt_64_0_0 (x : X_check_scope_stmt_64_0_0) : Option (X_check_scope_stmt_64_0_0 ⊕ (X_check_scope_stmt_64_0_0_0 ⊕ X_check_scope_stmt_64_0_0_1)) := st_check_scope_stmt_64_0_0 x.1 x.2.1 x.2.2.1 x.2.2.2.1 x.2.2.2.2.1 x.2.2.2.2.2.1 x.2.2.2.2.2.2.1 x.2.2.2.2.2.2.2.1 x.2.2.2.2.2.2.2.2.1 x.2.2.2.2.2.2.2.2.2.1 x.2.2.2.2.2.2.2.2.2.2.1 x.2.2.2.2.2.2.2.2.2.2.2.1 x.2.2.2.2.2.2.2.2.2.2.2.2.1 x.2.2.2.2.2.2.2.2.2.2.2.2.2.1 x.2.2.2.2.2.2.2.2.2.2.2.2.2.2.1 x.2.2.2.2.2.2.2.2.2.2.2.2.2.2.2.1 x.2.2.2.2.2.2.2.2.2.2.2.2.2.2.2.2.1 x.2.2.2.2.2.2.2.2.2.2.2.2.2.2.2.2.2.1 x.2.2.2.2.2.2.2.2.2.2.2.2.2.2.2.2.2.2.1 x.2.2.2.2.2.2.2.2.2.2.2.2.2.2.2.2.2.2.2.1 x.2.2.2.2.2.2.2.2.2.2.2.2.2.2.2.2.2.2.2.2.1 x.2.2.2.2.2.2.2.2.2.2.2.2.2.2.2.2.2.2.2.2.2.1 x.2.2.2.2.2.2.2.2.2.2.2.2.2.2.2.2.2.2.2.2.2.2.1 x.2.2.2.2.2.2.2.2.2.2.2.2.2.2.2.2.2.2.2.2.2.2.2.1 x.2.2.2.2.2.2.2.2.2.2.2.2.2.2.2.2.2.2.2.2.2.2.2.2.1 x.2.2.2.2.2.2.2.2.2.2.2.2.2.2.2.2.2.2.2.2.2.2.2.2.2.1 x.2.2.2.2.2.2.2.2.2.2.2.2.2.2.2.2.2.2.2.2.2.2.2.2.2.2.1 x.2.2.2.2.2.2.2.2.2.2.2.2.2.2.2.2.2.2.2.2.2.2.2.2.2.2.2.1 x.2.2.2.2.2.2.2.2.2.2.2.2.2.2.2.2.2.2.2.2.2.2.2.2.2.2.2.2.1 x.2.2.2.2.2.2.2.2.2.2.2.2.2.2.2.2.2.2.2.2.2.2.2.2.2.2.2.2.2.1 x.2.2.2.2.2.2.2.2.2.2.2.2.2.2.2.2.2.2.2.2.2.2.2.2.2.2.2.2.2.2.1 x.2.2.2.2.2.2.2.2.2.2.2.2.2.2.2.2.2.2.2.2.2.2.2.2.2.2.2.2.2.2.2.1 x.2.2.2.2.2.2.2.2.2.2.2.2.2.2.2.2.2.2.2.2.2.2.2.2.2.2.2.2.2.2.2.2.1 x.2.2.2.2.2.2.2.2.2.2.2.2.2.2.2.2.2.2.2.2.2.2.2.2.2.2.2.2.2.2.2.2.2.1 x.2.2.2.2.2.2.2.2.2.2.2.2.2.2.2.2.2.2.2.2.2.2.2.2.2.2.2.2.2.2.2.2.2.2
theorem rn_check_scope_stmt_64_0_0 (x : X_check_scope_stmt_64_0_0) : rdX (cxU sp_check_scope_stmt [] 40 (1048576 ^ 9)) keeps 8 ⟨64, 19, keeps 64, 3⟩ 0 (bodyX 64 0) 3 kp_check_scope_stmt_64_0 (sT s_check_scope_stmt_64_0_0 (un_check_scope_stmt_64_0_0 x)) (sH s_check_scope_stmt_64_0_0 (un_check_scope_stmt_64_0_0 x)) (rdO (fun T h => (rdS s_check_scope_stmt_64_0_0 T h).map fl_check_scope_stmt_64_0_0) (getOr (getE 2 x_check_scope_stmt_64_0_0_0 fl_check_scope_stmt_64_0_0_0) (getE 1 x_check_scope_stmt_64_0_0_1 fl_check_scope_stmt_64_0_0_1))) = sx_check_scope_stmt_64_0_0 x := by kernel_rfl
noncomputable def L_check_scope_stmt_64_0_0 (x : X_check_scope_stmt_64_0_0) : Option (X_check_scope_stmt_64_0_0_0 ⊕ X_check_scope_stmt_64_0_0_1) := iterO (fun x => st_check_scope_stmt_64_0_0 x.1 x.2.1 x.2.2.1 x.2.2.2.1 x.2.2.2.2.1 x.2.2.2.2.2.1 x.2.2.2.2.2.2.1 x.2.2.2.2.2.2.2.1 x.2.2.2.2.2.2.2.2.1 x.2.2.2.2.2.2.2.2.2.1 x.2.2.2.2.2.2.2.2.2.2.1 x.2.2.2.2.2.2.2.2.2.2.2.1 x.2.2.2.2.2.2.2.2.2.2.2.2.1 x.2.2.2.2.2.2.2.2.2.2.2.2.2.1 x.2.2.2.2.2.2.2.2.2.2.2.2.2.2.1 x.2.2.2.2.2.2.2.2.2.2.2.2.2.2.2.1 x.2.2.2.2.2.2.2.2.2.2.2.2.2.2.2.2.1 x.2.2.2.2.2.2.2.2.2.2.2.2.2.2.2.2.2.1 x.2.2.2.2.2.2.2.2.2.2.2.2.2.2.2.2.2.2.1 x.2.2.2.2.2.2.2.2.2.2.2.2.2.2.2.2.2.2.2.1 x.2.2.2.2.2.2.2.2.2.2.2.2.2.2.2.2.2.2.2.2.1 x.2.2.2.2.2.2.2.2.2.2.2.2.2.2.2.2.2.2.2.2.2.1 x.2.2.2.2.2.2.2.2.2.2.2.2.2.2.2.2.2.2.2.2.2.2.1 x.2.2.2.2.2.2.2.2.2.2.2.2.2.2.2.2.2.2.2.2.2.2.2.1 x.2.2.2.2.2.2.2.2.2.2.2.2.2.2.2.2.2.2.2.2.2.2.2.2.1 x.2.2.2.2.2.2.2.2.2.2.2.2.2.2.2.2.2.2.2.2.2.2.2.2.2.1 x.2.2.2.2.2.2.2.2.2.2.2.2.2.2.2.2.2.2.2.2.2.2.2.2.2.2.1 x.2.2.2.2.2.2.2.2.2.2.2.2.2.2.2.2.2.2.2.2.2.2.2.2.2.2.2.1 x.2.2.2.2.2.2.2.2.2.2.2.2.2.2.2.2.2.2.2.2.2.2.2.2.2.2.2.2.1 x.2.2.2.2.2.2.2.2.2.2.2.2.2.2.2.2.2.2.2.2.2.2.2.2.2.2.2.2.2.1 x.2.2.2.2.2.2.2.2.2.2.2.2.2.2.2.2.2.2.2.2.2.2.2.2.2.2.2.2.2.2.1 x.2.2.2.2.2.2.2.2.2.2.2.2.2.2.2.2.2.2.2.2.2.2.2.2.2.2.2.2.2.2.2.1 x.2.2.2.2.2.2.2.2.2.2.2.2.2.2.2.2.2.2.2.2.2.2.2.2.2.2.2.2.2.2.2.2.1 x.2.2.2.2.2.2.2.2.2.2.2.2.2.2.2.2.2.2.2.2.2.2.2.2.2.2.2.2.2.2.2.2.2.1 x.2.2.2.2.2.2.2.2.2.2.2.2.2.2.2.2.2.2.2.2.2.2.2.2.2.2.2.2.2.2.2.2.2.2) FUEL x
noncomputable def q_check_scope_stmt_64_0 : Nat → Tm → Prog (Nat × Tm) := (varP 3 (fun T h => (rdS s_check_scope_stmt_64_0_0 T h).map fl_check_scope_stmt_64_0_0) L_check_scope_stmt_64_0_0 (fun y => .alt y (altE 2 x_check_scope_stmt_64_0_0_0 un_check_scope_stmt_64_0_0_0) (altE 1 x_check_scope_stmt_64_0_0_1 un_check_scope_stmt_64_0_0_1)) (varP 4 (fun T h => (rdS s_check_scope_stmt_64_0_1 T h).map fl_check_scope_stmt_64_0_1) L_check_scope_stmt_64_0_1 (fun y => .alt y (altE 2 x_check_scope_stmt_64_0_1_0 un_check_scope_stmt_64_0_1_0) (altE 1 x_check_scope_stmt_64_0_1_1 un_check_scope_stmt_64_0_1_1)) (fun _ _ => .fail)))
noncomputable def lc_check_scope_stmt_64_0 : Lpc := ⟨64, 0, 19, (fun base T => .norm base (kp_check_scope_stmt_64_0 0) T (q_check_scope_stmt_64_0 base)), by kernel_rfl, by kernel_rfl, (loopU sp_check_scope_stmt [] 40 (1048576 ^ 9) 8 (keep := kp_check_scope_stmt_64_0) (q := q_check_scope_stmt_64_0) (by kernel_rfl) (varX_ok (s := s_check_scope_stmt_64_0_0) (un := un_check_scope_stmt_64_0_0) (by rfl) (fun _ => rfl) (getOr_ok (getE_ok (s := x_check_scope_stmt_64_0_0_0) (un := un_check_scope_stmt_64_0_0_0) (by rfl) (fun _ => rfl)) (getE_ok (s := x_check_scope_stmt_64_0_0_1) (un := un_check_scope_stmt_64_0_0_1) (by rfl) (fun _ => rfl))) (step := sx_check_scope_stmt_64_0_0) rn_check_scope_stmt_64_0_0 (fun _ _ e => ⟨_, e⟩) (altOr_ok (altE_ok 2 x_check_scope_stmt_64_0_0_0 un_check_scope_stmt_64_0_0_0) (altE_ok 1 x_check_scope_stmt_64_0_0_1 un_check_scope_stmt_64_0_0_1)) (varX_ok (s := s_check_scope_stmt_64_0_1) (un := un_check_scope_stmt_64_0_1) (by rfl) (fun _ => rfl) (getOr_ok (getE_ok (s := x_check_scope_stmt_64_0_1_0) (un := un_check_scope_stmt_64_0_1_0) (by rfl) (fun _ => rfl)) (getE_ok (s := x_check_scope_stmt_64_0_1_1) (un := un_check_scope_stmt_64_0_1_1) (by rfl) (fun _ => rfl))) (step := sx_check_scope_stmt_64_0_1) rn_check_scope_stmt_64_0_1 (fun _ _ e => ⟨_, e⟩) (altOr_ok (altE_ok 2 x_check_scope_stmt_64_0_1_0 un_check_scope_stmt_64_0_1_0) (altE_ok 1 x_check_scope_stmt_64_0_1_1 un_check_scope_stmt_64_0_1_1)) (VarOk.fail _ _))))⟩
noncomputable def g_check_scope_stmt (a0 : (Pg × Th)) (a1 : Stm) : Option Bool :=
  bif a1.1 == 1 then
 optC (G_check_scope_isVar (a0, a1.2.1, ())) none fun d6 ↦
 bif d6 then optC (G_check_scope_expr (a0, a1.2.2.2.1, ())) none fun d7 ↦ some d7 else some false
 else
 bif a1.1 == 2 then
 optC (G_check_Array (a0.1, a1.2.1, ())) none fun d6 ↦
 bif decide (d6 ≥ 0) then
 optC (G_check_scope_expr (a0, a1.2.2.1, ())) none fun d7 ↦
 bif d7 then optC (G_check_scope_expr (a0, a1.2.2.2.1, ())) none fun d8 ↦ some d8 else some false
 else some false
 else
 bif a1.1 == 3 then optC (G_check_Mutex (a0.1, a1.2.1, ())) none fun d6 ↦ some (decide (d6 ≥ 0))
 else
 bif a1.1 == 4 then optC (G_check_Mutex (a0.1, a1.2.1, ())) none fun d6 ↦ some (decide (d6 ≥ 0))
 else
 bif a1.1 == 5 then
 optC (G_check_scope_cond (a0, a1.2.2.2.2.1, ())) none fun d6 ↦
 bif d6 then
 optC
 (L_check_scope_stmt_64_0_0
 (a1.2.2.2.2.2.1, (↑(List.length a1.2.2.2.2.2.1) : Int), 0, a0.1.1, a0.1.2.1, a0.1.2.2.1, a0.1.2.2.2, a0.2.1, a0.2.2.1,
 a0.2.2.2, a1.1, a1.2.1, a1.2.2.1.1, a1.2.2.1.2.1, a1.2.2.1.2.2.1, a1.2.2.1.2.2.2.1, a1.2.2.1.2.2.2.2,
 a1.2.2.2.1.1, a1.2.2.2.1.2.1, a1.2.2.2.1.2.2.1, a1.2.2.2.1.2.2.2.1, a1.2.2.2.1.2.2.2.2,
 a1.2.2.2.2.1.1, a1.2.2.2.2.1.2.1, a1.2.2.2.2.1.2.2.1, a1.2.2.2.2.1.2.2.2, a1.2.2.2.2.2.1,
 a1.2.2.2.2.2.2, a0.1.1, a0.1.2.1, a0.1.2.2.1, a0.1.2.2.2, a0.2))
 none fun d7 ↦
 Sum.elim
 (fun e8 ↦
 optC
 (L_check_scope_stmt_64_0_1
 (e8.2.2.2.2.2.2.2.2.2.2.2.2.2.2.2.2.2.2.2.2.2.2.2.2.1,
 (↑e8.2.2.2.2.2.2.2.2.2.2.2.2.2.2.2.2.2.2.2.2.2.2.2.2.1.length : Int), 0,
 e8.2.2.2.2.2.2.2.2.2.2.2.2.2.2.2.2.2.2.2.2.2.2.2.2.2.1,
 e8.2.2.2.2.2.2.2.2.2.2.2.2.2.2.2.2.2.2.2.2.2.2.2.2.2.2.1,
 e8.2.2.2.2.2.2.2.2.2.2.2.2.2.2.2.2.2.2.2.2.2.2.2.2.2.2.2.1,
 e8.2.2.2.2.2.2.2.2.2.2.2.2.2.2.2.2.2.2.2.2.2.2.2.2.2.2.2.2.1,
 e8.2.2.2.2.2.2.2.2.2.2.2.2.2.2.2.2.2.2.2.2.2.2.2.2.2.2.2.2.2.1,
 e8.2.2.2.2.2.2.2.2.2.2.2.2.2.2.2.2.2.2.2.2.2.2.2.2.2.2.2.2.2.2.1,
 e8.2.2.2.2.2.2.2.2.2.2.2.2.2.2.2.2.2.2.2.2.2.2.2.2.2.2.2.2.2.2.2, e8))
 none fun d9 ↦ Sum.elim (fun e10 ↦ some !decide (-1 ≥ 0)) (fun e10 ↦ some !decide (e10.1 ≥ 0)) d9)
 (fun e8 ↦
 bif !decide (e8.1 ≥ 0) then
 optC
 (L_check_scope_stmt_64_0_1
 (e8.2.2.2.2.2.2.2.2.2.2.2.2.2.2.2.2.2.2.2.2.2.2.2.2.2.1,
 (↑e8.2.2.2.2.2.2.2.2.2.2.2.2.2.2.2.2.2.2.2.2.2.2.2.2.2.1.length : Int), 0,
 e8.2.2.2.2.2.2.2.2.2.2.2.2.2.2.2.2.2.2.2.2.2.2.2.2.2.2.1,
 e8.2.2.2.2.2.2.2.2.2.2.2.2.2.2.2.2.2.2.2.2.2.2.2.2.2.2.2.1,
 e8.2.2.2.2.2.2.2.2.2.2.2.2.2.2.2.2.2.2.2.2.2.2.2.2.2.2.2.2.1,
 e8.2.2.2.2.2.2.2.2.2.2.2.2.2.2.2.2.2.2.2.2.2.2.2.2.2.2.2.2.2.1,
 e8.2.2.2.2.2.2.2.2.2.2.2.2.2.2.2.2.2.2.2.2.2.2.2.2.2.2.2.2.2.2.1,
 e8.2.2.2.2.2.2.2.2.2.2.2.2.2.2.2.2.2.2.2.2.2.2.2.2.2.2.2.2.2.2.2.1,
 e8.2.2.2.2.2.2.2.2.2.2.2.2.2.2.2.2.2.2.2.2.2.2.2.2.2.2.2.2.2.2.2.2, e8.2))
 none fun d9 ↦ Sum.elim (fun e10 ↦ some !decide (-1 ≥ 0)) (fun e10 ↦ some !decide (e10.1 ≥ 0)) d9
 else some false)
 d7
 else some false
 else
 bif a1.1 == 6 then
 optC (G_check_scope_cond (a0, a1.2.2.2.2.1, ())) none fun d6 ↦
 bif d6 then
 optC
 (L_check_scope_stmt_64_0_0
 (a1.2.2.2.2.2.1, (↑(List.length a1.2.2.2.2.2.1) : Int), 0, a0.1.1, a0.1.2.1, a0.1.2.2.1, a0.1.2.2.2, a0.2.1, a0.2.2.1,
 a0.2.2.2, a1.1, a1.2.1, a1.2.2.1.1, a1.2.2.1.2.1, a1.2.2.1.2.2.1, a1.2.2.1.2.2.2.1, a1.2.2.1.2.2.2.2,
 a1.2.2.2.1.1, a1.2.2.2.1.2.1, a1.2.2.2.1.2.2.1, a1.2.2.2.1.2.2.2.1, a1.2.2.2.1.2.2.2.2,
 a1.2.2.2.2.1.1, a1.2.2.2.2.1.2.1, a1.2.2.2.2.1.2.2.1, a1.2.2.2.2.1.2.2.2, a1.2.2.2.2.2.1,
 a1.2.2.2.2.2.2, a0.1.1, a0.1.2.1, a0.1.2.2.1, a0.1.2.2.2, a0.2))
 none fun d7 ↦ Sum.elim (fun e8 ↦ some !decide (-1 ≥ 0)) (fun e8 ↦ some !decide (e8.1 ≥ 0)) d7
 else some false
 else bif a1.1 == 7 then optC (G_check_scope_cond (a0, a1.2.2.2.2.1, ())) none fun d6 ↦ some d6 else some true
theorem raw_check_scope_stmt (a0 : (Pg × Th)) (a1 : Stm) : evGX1 (cxU sp_check_scope_stmt [lc_check_scope_stmt_64_0] 40 (1048576 ^ 9)) keeps 8 16 ash_check_scope_stmt (.dat .bool) ((a0, a1, ()) : ((Pg × Th) × (Stm × Unit))) = g_check_scope_stmt a0 a1 := by kernel_rfl
noncomputable def GI_check_scope_stmt (x : ((Pg × Th) × (Stm × Unit))) : Option Bool := g_check_scope_stmt x.1 x.2.1
noncomputable def conI_check_scope_stmt : List AV → Prog AV := conP true ash_check_scope_stmt (.dat .bool) GI_check_scope_stmt
theorem sndI_check_scope_stmt : SoundA Tryd.prog 16 conI_check_scope_stmt := conP_sound (evF1_sound (tabOk_of tab_ok) (cmpsOk_of tab_ok cmps_ok) mixed (inU sp_check_scope_stmt [lc_check_scope_stmt_64_0] 40 (1048576 ^ 9)) (hspL sp_check_scope_stmt) keeps 8 16) true (by rfl) (by rfl) (fun x r e => (evGX1_eq _ _ _ _ _ _ _).trans ((raw_check_scope_stmt x.1 x.2.1).trans e)) (.inl rfl)
end
noncomputable def it_check_scope_stmt : Nat → {K : ((Pg × Th) × (Stm × Unit)) → Option Bool // SoundA Tryd.prog 16 (conP true ash_check_scope_stmt (.dat .bool) K)}
  | 0 => ⟨fun _ => none, conP_none⟩
  | k + 1 => letI : Rec_check_scope_stmt := ⟨(it_check_scope_stmt k).1, (it_check_scope_stmt k).2⟩; ⟨GI_check_scope_stmt, sndI_check_scope_stmt⟩
noncomputable def G_check_scope_stmt (x : ((Pg × Th) × (Stm × Unit))) : Option Bool := (it_check_scope_stmt (SizeOf.sizeOf x + 1)).1 x
noncomputable def con_check_scope_stmt : List AV → Prog AV := conP true ash_check_scope_stmt (.dat .bool) G_check_scope_stmt
theorem snd_check_scope_stmt : SoundA Tryd.prog 16 con_check_scope_stmt := conP_pick (sh := ash_check_scope_stmt) (rs := .dat .bool) (n := fun x : ((Pg × Th) × (Stm × Unit)) => SizeOf.sizeOf x + 1) (F := fun k => (it_check_scope_stmt k).1) (fun k => (it_check_scope_stmt k).2)
end Go.Proofs.YtmjbedjnojcmfaaDoor.Ex

namespace Go.Proofs.YtmjbedjnojcmfaaDoor.Ex
set_option maxRecDepth 100000
set_option maxHeartbeats 2000000
set_option linter.unusedVariables false
set_option linter.unusedSimpArgs false
set_option linter.unusedSectionVars false
variable [Rec_check_scope_stmt]
noncomputable def bd_check_scope_stmt_64_0_1 (b3 : (List Gb)) (b3_1 : (List Gb)) (b3_2 : (List ByteArray)) (b3_3 : (List Th)) (b3_4 : ByteArray) (b3_5 : (List ByteArray)) (b3_6 : (List (RT.C 2))) (b2 : (List Gb)) (b2_1 : (List Gb)) (b2_2 : (List ByteArray)) (b2_3 : (List Th)) (b2_4 : ByteArray) (b2_5 : (List ByteArray)) (b2_6 : (List (RT.C 2))) (b1 : Int) (b1_1 : ByteArray) (b1_2 : Int) (b1_3 : Int) (b1_4 : Int) (b1_5 : ByteArray) (b1_6 : (List (RT.C 0))) (b1_7 : Int) (b1_8 : Int) (b1_9 : Int) (b1_10 : ByteArray) (b1_11 : (List (RT.C 0))) (b1_12 : Int) (b1_13 : Int) (b1_14 : (List (RT.C 0))) (b1_15 : (List (RT.C 1))) (b1_16 : (List (RT.C 2))) (b1_17 : (List (RT.C 2))) (b0 : (List Gb)) (b0_1 : (List Gb)) (b0_2 : (List ByteArray)) (b0_3 : (List Th)) (b0_4 : ByteArray) (b0_5 : (List ByteArray)) (b0_6 : (List (RT.C 2))) (s0 : (List (RT.C 2))) (i : Nat)  (d : (RT.C 2)) : Option (Unit ⊕ (X_check_scope_stmt_64_0_1_0 ⊕ X_check_scope_stmt_64_0_1_1)) :=
  optC (Rec_check_scope_stmt.K (((b3, b3_1, b3_2, b3_3), b3_4, b3_5, b3_6), uT2 d, ())) (none) fun d47 ↦
   bif !d47 then
   some (Sum.inr (Sum.inr ((i : Int), b3, b3_1, b3_2, b3_3, b3_4, b3_5, b3_6, b2, b2_1, b2_2, b2_3, b2_4, b2_5, b2_6, b1, b1_1, b1_2, b1_3, b1_4, b1_5, b1_6, b1_7, b1_8, b1_9, b1_10, b1_11, b1_12, b1_13, b1_14, b1_15, b1_16, b1_17, b0, b0_1, b0_2, b0_3, b0_4, b0_5, b0_6)))
 else some (Sum.inl ())
noncomputable def fn_check_scope_stmt_64_0_1 (b3 : (List Gb)) (b3_1 : (List Gb)) (b3_2 : (List ByteArray)) (b3_3 : (List Th)) (b3_4 : ByteArray) (b3_5 : (List ByteArray)) (b3_6 : (List (RT.C 2))) (b2 : (List Gb)) (b2_1 : (List Gb)) (b2_2 : (List ByteArray)) (b2_3 : (List Th)) (b2_4 : ByteArray) (b2_5 : (List ByteArray)) (b2_6 : (List (RT.C 2))) (b1 : Int) (b1_1 : ByteArray) (b1_2 : Int) (b1_3 : Int) (b1_4 : Int) (b1_5 : ByteArray) (b1_6 : (List (RT.C 0))) (b1_7 : Int) (b1_8 : Int) (b1_9 : Int) (b1_10 : ByteArray) (b1_11 : (List (RT.C 0))) (b1_12 : Int) (b1_13 : Int) (b1_14 : (List (RT.C 0))) (b1_15 : (List (RT.C 1))) (b1_16 : (List (RT.C 2))) (b1_17 : (List (RT.C 2))) (b0 : (List Gb)) (b0_1 : (List Gb)) (b0_2 : (List ByteArray)) (b0_3 : (List Th)) (b0_4 : ByteArray) (b0_5 : (List ByteArray)) (b0_6 : (List (RT.C 2))) (s0 : (List (RT.C 2)))  : Option (X_check_scope_stmt_64_0_1_0 ⊕ X_check_scope_stmt_64_0_1_1) :=
  some (Sum.inl (b3, b3_1, b3_2, b3_3, b3_4, b3_5, b3_6, b2, b2_1, b2_2, b2_3, b2_4, b2_5, b2_6, b1, b1_1, b1_2, b1_3, b1_4, b1_5, b1_6, b1_7, b1_8, b1_9, b1_10, b1_11, b1_12, b1_13, b1_14, b1_15, b1_16, b1_17, b0, b0_1, b0_2, b0_3, b0_4, b0_5, b0_6))
noncomputable abbrev rx_check_scope_stmt_64_0_1 (b3 : (List Gb)) (b3_1 : (List Gb)) (b3_2 : (List ByteArray)) (b3_3 : (List Th)) (b3_4 : ByteArray) (b3_5 : (List ByteArray)) (b3_6 : (List (RT.C 2))) (b2 : (List Gb)) (b2_1 : (List Gb)) (b2_2 : (List ByteArray)) (b2_3 : (List Th)) (b2_4 : ByteArray) (b2_5 : (List ByteArray)) (b2_6 : (List (RT.C 2))) (b1 : Int) (b1_1 : ByteArray) (b1_2 : Int) (b1_3 : Int) (b1_4 : Int) (b1_5 : ByteArray) (b1_6 : (List (RT.C 0))) (b1_7 : Int) (b1_8 : Int) (b1_9 : Int) (b1_10 : ByteArray) (b1_11 : (List (RT.C 0))) (b1_12 : Int) (b1_13 : Int) (b1_14 : (List (RT.C 0))) (b1_15 : (List (RT.C 1))) (b1_16 : (List (RT.C 2))) (b1_17 : (List (RT.C 2))) (b0 : (List Gb)) (b0_1 : (List Gb)) (b0_2 : (List ByteArray)) (b0_3 : (List Th)) (b0_4 : ByteArray) (b0_5 : (List ByteArray)) (b0_6 : (List (RT.C 2))) (s0 : (List (RT.C 2))) (i : Nat) (s : Unit) : X_check_scope_stmt_64_0_1 := (s0, (s0.length : Int), (i : Int), b3, b3_1, b3_2, b3_3, b3_4, b3_5, b3_6, b2, b2_1, b2_2, b2_3, b2_4, b2_5, b2_6, b1, b1_1, b1_2, b1_3, b1_4, b1_5, b1_6, b1_7, b1_8, b1_9, b1_10, b1_11, b1_12, b1_13, b1_14, b1_15, b1_16, b1_17, b0, b0_1, b0_2, b0_3, b0_4, b0_5, b0_6)
noncomputable def rv_check_scope_stmt_64_0_1 (b3 : (List Gb)) (b3_1 : (List Gb)) (b3_2 : (List ByteArray)) (b3_3 : (List Th)) (b3_4 : ByteArray) (b3_5 : (List ByteArray)) (b3_6 : (List (RT.C 2))) (b2 : (List Gb)) (b2_1 : (List Gb)) (b2_2 : (List ByteArray)) (b2_3 : (List Th)) (b2_4 : ByteArray) (b2_5 : (List ByteArray)) (b2_6 : (List (RT.C 2))) (b1 : Int) (b1_1 : ByteArray) (b1_2 : Int) (b1_3 : Int) (b1_4 : Int) (b1_5 : ByteArray) (b1_6 : (List (RT.C 0))) (b1_7 : Int) (b1_8 : Int) (b1_9 : Int) (b1_10 : ByteArray) (b1_11 : (List (RT.C 0))) (b1_12 : Int) (b1_13 : Int) (b1_14 : (List (RT.C 0))) (b1_15 : (List (RT.C 1))) (b1_16 : (List (RT.C 2))) (b1_17 : (List (RT.C 2))) (b0 : (List Gb)) (b0_1 : (List Gb)) (b0_2 : (List ByteArray)) (b0_3 : (List Th)) (b0_4 : ByteArray) (b0_5 : (List ByteArray)) (b0_6 : (List (RT.C 2))) (s0 : (List (RT.C 2))) (s : Unit) : Option (X_check_scope_stmt_64_0_1_0 ⊕ X_check_scope_stmt_64_0_1_1) := rangeO (fun i s d => bd_check_scope_stmt_64_0_1 b3 b3_1 b3_2 b3_3 b3_4 b3_5 b3_6 b2 b2_1 b2_2 b2_3 b2_4 b2_5 b2_6 b1 b1_1 b1_2 b1_3 b1_4 b1_5 b1_6 b1_7 b1_8 b1_9 b1_10 b1_11 b1_12 b1_13 b1_14 b1_15 b1_16 b1_17 b0 b0_1 b0_2 b0_3 b0_4 b0_5 b0_6 s0 i  d) (fun s => fn_check_scope_stmt_64_0_1 b3 b3_1 b3_2 b3_3 b3_4 b3_5 b3_6 b2 b2_1 b2_2 b2_3 b2_4 b2_5 b2_6 b1 b1_1 b1_2 b1_3 b1_4 b1_5 b1_6 b1_7 b1_8 b1_9 b1_10 b1_11 b1_12 b1_13 b1_14 b1_15 b1_16 b1_17 b0 b0_1 b0_2 b0_3 b0_4 b0_5 b0_6 s0 ) 0 s0 s
theorem rg_check_scope_stmt_64_0_1 (b3 : (List Gb)) (b3_1 : (List Gb)) (b3_2 : (List ByteArray)) (b3_3 : (List Th)) (b3_4 : ByteArray) (b3_5 : (List ByteArray)) (b3_6 : (List (RT.C 2))) (b2 : (List Gb)) (b2_1 : (List Gb)) (b2_2 : (List ByteArray)) (b2_3 : (List Th)) (b2_4 : ByteArray) (b2_5 : (List ByteArray)) (b2_6 : (List (RT.C 2))) (b1 : Int) (b1_1 : ByteArray) (b1_2 : Int) (b1_3 : Int) (b1_4 : Int) (b1_5 : ByteArray) (b1_6 : (List (RT.C 0))) (b1_7 : Int) (b1_8 : Int) (b1_9 : Int) (b1_10 : ByteArray) (b1_11 : (List (RT.C 0))) (b1_12 : Int) (b1_13 : Int) (b1_14 : (List (RT.C 0))) (b1_15 : (List (RT.C 1))) (b1_16 : (List (RT.C 2))) (b1_17 : (List (RT.C 2))) (b0 : (List Gb)) (b0_1 : (List Gb)) (b0_2 : (List ByteArray)) (b0_3 : (List Th)) (b0_4 : ByteArray) (b0_5 : (List ByteArray)) (b0_6 : (List (RT.C 2))) (s0 : (List (RT.C 2))) (s : Unit) (hl : s0.length < 9223372036854775807) : L_check_scope_stmt_64_0_1 (s0, (s0.length : Int), 0, b3, b3_1, b3_2, b3_3, b3_4, b3_5, b3_6, b2, b2_1, b2_2, b2_3, b2_4, b2_5, b2_6, b1, b1_1, b1_2, b1_3, b1_4, b1_5, b1_6, b1_7, b1_8, b1_9, b1_10, b1_11, b1_12, b1_13, b1_14, b1_15, b1_16, b1_17, b0, b0_1, b0_2, b0_3, b0_4, b0_5, b0_6) = rv_check_scope_stmt_64_0_1 b3 b3_1 b3_2 b3_3 b3_4 b3_5 b3_6 b2 b2_1 b2_2 b2_3 b2_4 b2_5 b2_6 b1 b1_1 b1_2 b1_3 b1_4 b1_5 b1_6 b1_7 b1_8 b1_9 b1_10 b1_11 b1_12 b1_13 b1_14 b1_15 b1_16 b1_17 b0 b0_1 b0_2 b0_3 b0_4 b0_5 b0_6 s0 s := by
  unfold L_check_scope_stmt_64_0_1 rv_check_scope_stmt_64_0_1
  refine iterO_range0 s0 (rx_check_scope_stmt_64_0_1 b3 b3_1 b3_2 b3_3 b3_4 b3_5 b3_6 b2 b2_1 b2_2 b2_3 b2_4 b2_5 b2_6 b1 b1_1 b1_2 b1_3 b1_4 b1_5 b1_6 b1_7 b1_8 b1_9 b1_10 b1_11 b1_12 b1_13 b1_14 b1_15 b1_16 b1_17 b0 b0_1 b0_2 b0_3 b0_4 b0_5 b0_6 s0) _ _ ?_ ?_ s (by unfold FUEL; omega)
  · intro i s d hi hd
    have e1 : decide ((i : Int) < (s0.length : Int)) = true := decide_eq_true (by omega)
    have e2 : decide (0 ≤ (i : Int)) = true := decide_eq_true (by omega)
    have e3 : Int.toNat (i : Int) = i := Int.toNat_natCast i
    have e4 := wrap_next hi (Nat.le_of_lt hl)
    show st_check_scope_stmt_64_0_1 (s0) ((s0.length : Int)) ((i : Int)) (b3) (b3_1) (b3_2) (b3_3) (b3_4) (b3_5) (b3_6) (b2) (b2_1) (b2_2) (b2_3) (b2_4) (b2_5) (b2_6) (b1) (b1_1) (b1_2) (b1_3) (b1_4) (b1_5) (b1_6) (b1_7) (b1_8) (b1_9) (b1_10) (b1_11) (b1_12) (b1_13) (b1_14) (b1_15) (b1_16) (b1_17) (b0) (b0_1) (b0_2) (b0_3) (b0_4) (b0_5) (b0_6) = upd _ (bd_check_scope_stmt_64_0_1 b3 b3_1 b3_2 b3_3 b3_4 b3_5 b3_6 b2 b2_1 b2_2 b2_3 b2_4 b2_5 b2_6 b1 b1_1 b1_2 b1_3 b1_4 b1_5 b1_6 b1_7 b1_8 b1_9 b1_10 b1_11 b1_12 b1_13 b1_14 b1_15 b1_16 b1_17 b0 b0_1 b0_2 b0_3 b0_4 b0_5 b0_6 s0 i  d)
    unfold st_check_scope_stmt_64_0_1 bd_check_scope_stmt_64_0_1
    simp only [e1, e2, e3, e4, hd, cond_true, cond_false, optC_some, upd_cond, upd_optC, upd_elim, upd_inl, upd_inr, upd_none]
  · intro s
    have e1 : decide ((s0.length : Int) < (s0.length : Int)) = false := decide_eq_false (by omega)
    show st_check_scope_stmt_64_0_1 (s0) ((s0.length : Int)) ((s0.length : Int)) (b3) (b3_1) (b3_2) (b3_3) (b3_4) (b3_5) (b3_6) (b2) (b2_1) (b2_2) (b2_3) (b2_4) (b2_5) (b2_6) (b1) (b1_1) (b1_2) (b1_3) (b1_4) (b1_5) (b1_6) (b1_7) (b1_8) (b1_9) (b1_10) (b1_11) (b1_12) (b1_13) (b1_14) (b1_15) (b1_16) (b1_17) (b0) (b0_1) (b0_2) (b0_3) (b0_4) (b0_5) (b0_6) = _
    unfold st_check_scope_stmt_64_0_1 fn_check_scope_stmt_64_0_1
    rw [e1]
    rfl
noncomputable def bd_check_scope_stmt_64_0_0 (b2 : (List Gb)) (b2_1 : (List Gb)) (b2_2 : (List ByteArray)) (b2_3 : (List Th)) (b2_4 : ByteArray) (b2_5 : (List ByteArray)) (b2_6 : (List (RT.C 2))) (b1 : Int) (b1_1 : ByteArray) (b1_2 : Int) (b1_3 : Int) (b1_4 : Int) (b1_5 : ByteArray) (b1_6 : (List (RT.C 0))) (b1_7 : Int) (b1_8 : Int) (b1_9 : Int) (b1_10 : ByteArray) (b1_11 : (List (RT.C 0))) (b1_12 : Int) (b1_13 : Int) (b1_14 : (List (RT.C 0))) (b1_15 : (List (RT.C 1))) (b1_16 : (List (RT.C 2))) (b1_17 : (List (RT.C 2))) (b0 : (List Gb)) (b0_1 : (List Gb)) (b0_2 : (List ByteArray)) (b0_3 : (List Th)) (b0_4 : ByteArray) (b0_5 : (List ByteArray)) (b0_6 : (List (RT.C 2))) (s0 : (List (RT.C 2))) (i : Nat)  (d : (RT.C 2)) : Option (Unit ⊕ (X_check_scope_stmt_64_0_0_0 ⊕ X_check_scope_stmt_64_0_0_1)) :=
  optC (Rec_check_scope_stmt.K (((b2, b2_1, b2_2, b2_3), b2_4, b2_5, b2_6), uT2 d, ())) (none) fun d40 ↦
   bif !d40 then
   some (Sum.inr (Sum.inr ((i : Int), b2, b2_1, b2_2, b2_3, b2_4, b2_5, b2_6, b1, b1_1, b1_2, b1_3, b1_4, b1_5, b1_6, b1_7, b1_8, b1_9, b1_10, b1_11, b1_12, b1_13, b1_14, b1_15, b1_16, b1_17, b0, b0_1, b0_2, b0_3, b0_4, b0_5, b0_6)))
 else some (Sum.inl ())
noncomputable def fn_check_scope_stmt_64_0_0 (b2 : (List Gb)) (b2_1 : (List Gb)) (b2_2 : (List ByteArray)) (b2_3 : (List Th)) (b2_4 : ByteArray) (b2_5 : (List ByteArray)) (b2_6 : (List (RT.C 2))) (b1 : Int) (b1_1 : ByteArray) (b1_2 : Int) (b1_3 : Int) (b1_4 : Int) (b1_5 : ByteArray) (b1_6 : (List (RT.C 0))) (b1_7 : Int) (b1_8 : Int) (b1_9 : Int) (b1_10 : ByteArray) (b1_11 : (List (RT.C 0))) (b1_12 : Int) (b1_13 : Int) (b1_14 : (List (RT.C 0))) (b1_15 : (List (RT.C 1))) (b1_16 : (List (RT.C 2))) (b1_17 : (List (RT.C 2))) (b0 : (List Gb)) (b0_1 : (List Gb)) (b0_2 : (List ByteArray)) (b0_3 : (List Th)) (b0_4 : ByteArray) (b0_5 : (List ByteArray)) (b0_6 : (List (RT.C 2))) (s0 : (List (RT.C 2)))  : Option (X_check_scope_stmt_64_0_0_0 ⊕ X_check_scope_stmt_64_0_0_1) :=
  some (Sum.inl (b2, b2_1, b2_2, b2_3, b2_4, b2_5, b2_6, b1, b1_1, b1_2, b1_3, b1_4, b1_5, b1_6, b1_7, b1_8, b1_9, b1_10, b1_11, b1_12, b1_13, b1_14, b1_15, b1_16, b1_17, b0, b0_1, b0_2, b0_3, b0_4, b0_5, b0_6))
noncomputable abbrev rx_check_scope_stmt_64_0_0 (b2 : (List Gb)) (b2_1 : (List Gb)) (b2_2 : (List ByteArray)) (b2_3 : (List Th)) (b2_4 : ByteArray) (b2_5 : (List ByteArray)) (b2_6 : (List (RT.C 2))) (b1 : Int) (b1_1 : ByteArray) (b1_2 : Int) (b1_3 : Int) (b1_4 : Int) (b1_5 : ByteArray) (b1_6 : (List (RT.C 0))) (b1_7 : Int) (b1_8 : Int) (b1_9 : Int) (b1_10 : ByteArray) (b1_11 : (List (RT.C 0))) (b1_12 : Int) (b1_13 : Int) (b1_14 : (List (RT.C 0))) (b1_15 : (List (RT.C 1))) (b1_16 : (List (RT.C 2))) (b1_17 : (List (RT.C 2))) (b0 : (List Gb)) (b0_1 : (List Gb)) (b0_2 : (List ByteArray)) (b0_3 : (List Th)) (b0_4 : ByteArray) (b0_5 : (List ByteArray)) (b0_6 : (List (RT.C 2))) (s0 : (List (RT.C 2))) (i : Nat) (s : Unit) : X_check_scope_stmt_64_0_0 := (s0, (s0.length : Int), (i : Int), b2, b2_1, b2_2, b2_3, b2_4, b2_5, b2_6, b1, b1_1, b1_2, b1_3, b1_4, b1_5, b1_6, b1_7, b1_8, b1_9, b1_10, b1_11, b1_12, b1_13, b1_14, b1_15, b1_16, b1_17, b0, b0_1, b0_2, b0_3, b0_4, b0_5, b0_6)
noncomputable def rv_check_scope_stmt_64_0_0 (b2 : (List Gb)) (b2_1 : (List Gb)) (b2_2 : (List ByteArray)) (b2_3 : (List Th)) (b2_4 : ByteArray) (b2_5 : (List ByteArray)) (b2_6 : (List (RT.C 2))) (b1 : Int) (b1_1 : ByteArray) (b1_2 : Int) (b1_3 : Int) (b1_4 : Int) (b1_5 : ByteArray) (b1_6 : (List (RT.C 0))) (b1_7 : Int) (b1_8 : Int) (b1_9 : Int) (b1_10 : ByteArray) (b1_11 : (List (RT.C 0))) (b1_12 : Int) (b1_13 : Int) (b1_14 : (List (RT.C 0))) (b1_15 : (List (RT.C 1))) (b1_16 : (List (RT.C 2))) (b1_17 : (List (RT.C 2))) (b0 : (List Gb)) (b0_1 : (List Gb)) (b0_2 : (List ByteArray)) (b0_3 : (List Th)) (b0_4 : ByteArray) (b0_5 : (List ByteArray)) (b0_6 : (List (RT.C 2))) (s0 : (List (RT.C 2))) (s : Unit) : Option (X_check_scope_stmt_64_0_0_0 ⊕ X_check_scope_stmt_64_0_0_1) := rangeO (fun i s d => bd_check_scope_stmt_64_0_0 b2 b2_1 b2_2 b2_3 b2_4 b2_5 b2_6 b1 b1_1 b1_2 b1_3 b1_4 b1_5 b1_6 b1_7 b1_8 b1_9 b1_10 b1_11 b1_12 b1_13 b1_14 b1_15 b1_16 b1_17 b0 b0_1 b0_2 b0_3 b0_4 b0_5 b0_6 s0 i  d) (fun s => fn_check_scope_stmt_64_0_0 b2 b2_1 b2_2 b2_3 b2_4 b2_5 b2_6 b1 b1_1 b1_2 b1_3 b1_4 b1_5 b1_6 b1_7 b1_8 b1_9 b1_10 b1_11 b1_12 b1_13 b1_14 b1_15 b1_16 b1_17 b0 b0_1 b0_2 b0_3 b0_4 b0_5 b0_6 s0 ) 0 s0 s
theorem rg_check_scope_stmt_64_0_0 (b2 : (List Gb)) (b2_1 : (List Gb)) (b2_2 : (List ByteArray)) (b2_3 : (List Th)) (b2_4 : ByteArray) (b2_5 : (List ByteArray)) (b2_6 : (List (RT.C 2))) (b1 : Int) (b1_1 : ByteArray) (b1_2 : Int) (b1_3 : Int) (b1_4 : Int) (b1_5 : ByteArray) (b1_6 : (List (RT.C 0))) (b1_7 : Int) (b1_8 : Int) (b1_9 : Int) (b1_10 : ByteArray) (b1_11 : (List (RT.C 0))) (b1_12 : Int) (b1_13 : Int) (b1_14 : (List (RT.C 0))) (b1_15 : (List (RT.C 1))) (b1_16 : (List (RT.C 2))) (b1_17 : (List (RT.C 2))) (b0 : (List Gb)) (b0_1 : (List Gb)) (b0_2 : (List ByteArray)) (b0_3 : (List Th)) (b0_4 : ByteArray) (b0_5 : (List ByteArray)) (b0_6 : (List (RT.C 2))) (s0 : (List (RT.C 2))) (s : Unit) (hl : s0.length < 9223372036854775807) : L_check_scope_stmt_64_0_0 (s0, (s0.length : Int), 0, b2, b2_1, b2_2, b2_3, b2_4, b2_5, b2_6, b1, b1_1, b1_2, b1_3, b1_4, b1_5, b1_6, b1_7, b1_8, b1_9, b1_10, b1_11, b1_12, b1_13, b1_14, b1_15, b1_16, b1_17, b0, b0_1, b0_2, b0_3, b0_4, b0_5, b0_6) = rv_check_scope_stmt_64_0_0 b2 b2_1 b2_2 b2_3 b2_4 b2_5 b2_6 b1 b1_1 b1_2 b1_3 b1_4 b1_5 b1_6 b1_7 b1_8 b1_9 b1_10 b1_11 b1_12 b1_13 b1_14 b1_15 b1_16 b1_17 b0 b0_1 b0_2 b0_3 b0_4 b0_5 b0_6 s0 s := by
  unfold L_check_scope_stmt_64_0_0 rv_check_scope_stmt_64_0_0
  refine iterO_range0 s0 (rx_check_scope_stmt_64_0_0 b2 b2_1 b2_2 b2_3 b2_4 b2_5 b2_6 b1 b1_1 b1_2 b1_3 b1_4 b1_5 b1_6 b1_7 b1_8 b1_9 b1_10 b1_11 b1_12 b1_13 b1_14 b1_15 b1_16 b1_17 b0 b0_1 b0_2 b0_3 b0_4 b0_5 b0_6 s0) _ _ ?_ ?_ s (by unfold FUEL; omega)
  · intro i s d hi hd
    have e1 : decide ((i : Int) < (s0.length : Int)) = true := decide_eq_true (by omega)
    have e2 : decide (0 ≤ (i : Int)) = true := decide_eq_true (by omega)
    have e3 : Int.toNat (i : Int) = i := Int.toNat_natCast i
    have e4 := wrap_next hi (Nat.le_of_lt hl)
    show st_check_scope_stmt_64_0_0 (s0) ((s0.length : Int)) ((i : Int)) (b2) (b2_1) (b2_2) (b2_3) (b2_4) (b2_5) (b2_6) (b1) (b1_1) (b1_2) (b1_3) (b1_4) (b1_5) (b1_6) (b1_7) (b1_8) (b1_9) (b1_10) (b1_11) (b1_12) (b1_13) (b1_14) (b1_15) (b1_16) (b1_17) (b0) (b0_1) (b0_2) (b0_3) (b0_4) (b0_5) (b0_6) = upd _ (bd_check_scope_stmt_64_0_0 b2 b2_1 b2_2 b2_3 b2_4 b2_5 b2_6 b1 b1_1 b1_2 b1_3 b1_4 b1_5 b1_6 b1_7 b1_8 b1_9 b1_10 b1_11 b1_12 b1_13 b1_14 b1_15 b1_16 b1_17 b0 b0_1 b0_2 b0_3 b0_4 b0_5 b0_6 s0 i  d)
    unfold st_check_scope_stmt_64_0_0 bd_check_scope_stmt_64_0_0
    simp only [e1, e2, e3, e4, hd, cond_true, cond_false, optC_some, upd_cond, upd_optC, upd_elim, upd_inl, upd_inr, upd_none]
  · intro s
    have e1 : decide ((s0.length : Int) < (s0.length : Int)) = false := decide_eq_false (by omega)
    show st_check_scope_stmt_64_0_0 (s0) ((s0.length : Int)) ((s0.length : Int)) (b2) (b2_1) (b2_2) (b2_3) (b2_4) (b2_5) (b2_6) (b1) (b1_1) (b1_2) (b1_3) (b1_4) (b1_5) (b1_6) (b1_7) (b1_8) (b1_9) (b1_10) (b1_11) (b1_12) (b1_13) (b1_14) (b1_15) (b1_16) (b1_17) (b0) (b0_1) (b0_2) (b0_3) (b0_4) (b0_5) (b0_6) = _
    unfold st_check_scope_stmt_64_0_0 fn_check_scope_stmt_64_0_0
    rw [e1]
    rfl
end Go.Proofs.YtmjbedjnojcmfaaDoor.Ex

