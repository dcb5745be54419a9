/- A part of the proofs of which programs may be: BH. -/
import Derived.Test.YtmjbedjnojcmfaaGreatDoorBF
import Derived.Test.YtmjbedjnojcmfaaGreatDoorBG
namespace Go.Proofs.YtmjbedjnojcmfaaGreatDoor.Ex
open Go.Proofs Go.Proofs.YtmjbedjnojcmfaaGreatDoor
set_option maxRecDepth 100000
set_option maxHeartbeats 2000000
set_option linter.unusedVariables false
set_option linter.unusedSimpArgs false
def ash_check_isCond : List Sh := [.dat tCd]
def kp_check_isCond_185_0 : Nat → List Nat := fun c => bif c.beq 0 then [0, 1, 7, 8] else [4]
def kp_check_isCond_186_0 : Nat → List Nat := fun c => bif c.beq 0 then [0, 1, 7, 8] else [4]
class Rec_check_isCond where
  K : (Cd × Unit) → Option Bool
  s : SoundA Tryz.prog 123 (conP true ash_check_isCond (.dat .bool) K)
section
variable [Rec_check_isCond]
noncomputable def sp_check_isCond : List Con := [⟨84, con_check_isIn, snd_check_isIn⟩, ⟨122, con_check_isExpr, snd_check_isExpr⟩, ⟨123, (conP true ash_check_isCond (.dat .bool) Rec_check_isCond.K), Rec_check_isCond.s⟩]
def s_check_isCond_185_0_0 : StS := ⟨[(0, .sl (.mu 0)), (1, .clo 163 [] [.ptr 1 0]), (7, .int .i64), (8, .int .i64)], [(1, .box [.clo 122 [] []]), (0, .box [.int .i64, .int .i64, .sl (.mu 0), .sl (.mu 1)])], 2⟩
def x_check_isCond_185_0_0_0 : StS := ⟨[(4, .undef)], [(1, .box [.clo 122 [] []]), (0, .box [.int .i64, .int .i64, .sl (.mu 0), .sl (.mu 1)])], 2⟩
def x_check_isCond_185_0_0_1 : StS := ⟨[(4, .int .i64)], [(1, .box [.clo 122 [] []]), (0, .box [.int .i64, .int .i64, .sl (.mu 0), .sl (.mu 1)])], 2⟩
abbrev X_check_isCond_185_0_0 := ((List (RT.C 0)) × Int × Int × Int × Int × (List (RT.C 0)) × (List (RT.C 1)))
def fl_check_isCond_185_0_0 (d : StD s_check_isCond_185_0_0) : X_check_isCond_185_0_0 := (d.1.1, d.1.2.2.1, d.1.2.2.2.1, d.2.2.1.1, d.2.2.1.2.1, d.2.2.1.2.2.1, d.2.2.1.2.2.2.1)
def un_check_isCond_185_0_0 (x : X_check_isCond_185_0_0) : StD s_check_isCond_185_0_0 := ((x.1, ((), ((), ())), x.2.1, x.2.2.1, ()), ((((), ()), ()), (x.2.2.2.1, x.2.2.2.2.1, x.2.2.2.2.2.1, x.2.2.2.2.2.2, ()), ()))
abbrev X_check_isCond_185_0_0_0 := (Int × Int × (List (RT.C 0)) × (List (RT.C 1)))
def fl_check_isCond_185_0_0_0 (d : StD x_check_isCond_185_0_0_0) : X_check_isCond_185_0_0_0 := (d.2.2.1.1, d.2.2.1.2.1, d.2.2.1.2.2.1, d.2.2.1.2.2.2.1)
def un_check_isCond_185_0_0_0 (x : X_check_isCond_185_0_0_0) : StD x_check_isCond_185_0_0_0 := (((), ()), ((((), ()), ()), (x.1, x.2.1, x.2.2.1, x.2.2.2, ()), ()))
abbrev X_check_isCond_185_0_0_1 := (Int × Int × Int × (List (RT.C 0)) × (List (RT.C 1)))
def fl_check_isCond_185_0_0_1 (d : StD x_check_isCond_185_0_0_1) : X_check_isCond_185_0_0_1 := (d.1.1, d.2.2.1.1, d.2.2.1.2.1, d.2.2.1.2.2.1, d.2.2.1.2.2.2.1)
def un_check_isCond_185_0_0_1 (x : X_check_isCond_185_0_0_1) : StD x_check_isCond_185_0_0_1 := ((x.1, ()), ((((), ()), ()), (x.2.1, x.2.2.1, x.2.2.2.1, x.2.2.2.2, ()), ()))
noncomputable def st_check_isCond_185_0_0 (s0 : (List (RT.C 0))) (s7 : Int) (s8 : Int) (b0 : Int) (b0_1 : Int) (b0_2 : (List (RT.C 0))) (b0_3 : (List (RT.C 1))) : Option (((List (RT.C 0)) × Int × Int × Int × Int × (List (RT.C 0)) × (List (RT.C 1))) ⊕ ((Int × Int × (List (RT.C 0)) × (List (RT.C 1))) ⊕ (Int × Int × Int × (List (RT.C 0)) × (List (RT.C 1))))) :=
  bif decide (s8 < s7) then
 bif decide (0 ≤ s8) then
 optC s0[s8.toNat]? none fun d11 ↦
 optC (G_check_isExpr (uT0 d11, ())) none fun d12 ↦
 bif !d12 then some (Sum.inr (Sum.inr (s8, b0, b0_1, b0_2, b0_3))) else some (Sum.inl (s0, s7, Go.IntKind.i64.wrap (s8 + 1), b0, b0_1, b0_2, b0_3))
 else none
 else some (Sum.inr (Sum.inl (b0, b0_1, b0_2, b0_3)))
noncomputable def sx_check_isCond_185_0_0 (x : X_check_isCond_185_0_0) : Option (X_check_isCond_185_0_0 ⊕ (X_check_isCond_185_0_0_0 ⊕ X_check_isCond_185_0_0_1)) := st_check_isCond_185_0_0 x.1 x.2.1 x.2.2.1 x.2.2.2.1 x.2.2.2.2.1 x.2.2.2.2.2.1 x.2.2.2.2.2.2
theorem rn_check_isCond_185_0_0 (x : X_check_isCond_185_0_0) : rdX (cxU sp_check_isCond [] 40 (1048576 ^ 9)) keeps 8 ⟨185, 19, keeps 185, 2⟩ 0 (bodyX 185 0) 2 kp_check_isCond_185_0 (sT s_check_isCond_185_0_0 (un_check_isCond_185_0_0 x)) (sH s_check_isCond_185_0_0 (un_check_isCond_185_0_0 x)) (rdO (fun T h => (rdS s_check_isCond_185_0_0 T h).map fl_check_isCond_185_0_0) (getOr (getE 2 x_check_isCond_185_0_0_0 fl_check_isCond_185_0_0_0) (getE 1 x_check_isCond_185_0_0_1 fl_check_isCond_185_0_0_1))) = sx_check_isCond_185_0_0 x := by kernel_rfl
noncomputable def L_check_isCond_185_0_0 (x : X_check_isCond_185_0_0) : Option (X_check_isCond_185_0_0_0 ⊕ X_check_isCond_185_0_0_1) := iterO (fun x => st_check_isCond_185_0_0 x.1 x.2.1 x.2.2.1 x.2.2.2.1 x.2.2.2.2.1 x.2.2.2.2.2.1 x.2.2.2.2.2.2) FUEL x
noncomputable def q_check_isCond_185_0 : Nat → Tm → Prog (Nat × Tm) := (varP 2 (fun T h => (rdS s_check_isCond_185_0_0 T h).map fl_check_isCond_185_0_0) L_check_isCond_185_0_0 (fun y => .alt y (altE 2 x_check_isCond_185_0_0_0 un_check_isCond_185_0_0_0) (altE 1 x_check_isCond_185_0_0_1 un_check_isCond_185_0_0_1)) (fun _ _ => .fail))
noncomputable def lc_check_isCond_185_0 : Lpc := ⟨185, 0, 19, (fun base T => .norm base (kp_check_isCond_185_0 0) T (q_check_isCond_185_0 base)), by kernel_rfl, by kernel_rfl, (loopU sp_check_isCond [] 40 (1048576 ^ 9) 8 (keep := kp_check_isCond_185_0) (q := q_check_isCond_185_0) (by kernel_rfl) (varX_ok (s := s_check_isCond_185_0_0) (un := un_check_isCond_185_0_0) (by rfl) (fun _ => rfl) (getOr_ok (getE_ok (s := x_check_isCond_185_0_0_0) (un := un_check_isCond_185_0_0_0) (by rfl) (fun _ => rfl)) (getE_ok (s := x_check_isCond_185_0_0_1) (un := un_check_isCond_185_0_0_1) (by rfl) (fun _ => rfl))) (step := sx_check_isCond_185_0_0) rn_check_isCond_185_0_0 (fun _ _ e => ⟨_, e⟩) (altOr_ok (altE_ok 2 x_check_isCond_185_0_0_0 un_check_isCond_185_0_0_0) (altE_ok 1 x_check_isCond_185_0_0_1 un_check_isCond_185_0_0_1)) (VarOk.fail _ _)))⟩
noncomputable abbrev cx_check_isCond_186_0 := cxU sp_check_isCond [lc_check_isCond_185_0] 40 (1048576 ^ 9)
def s_check_isCond_186_0_0 : StS := ⟨[(0, .sl (.mu 1)), (1, .clo 165 [] [.ptr 2 0]), (7, .int .i64), (8, .int .i64)], [(2, .box [.clo 123 [] []]), (1, .box [.clo 122 [] []]), (0, .box [.int .i64, .int .i64, .sl (.mu 0), .sl (.mu 1)])], 3⟩
def x_check_isCond_186_0_0_0 : StS := ⟨[(4, .undef)], [(2, .box [.clo 123 [] []]), (1, .box [.clo 122 [] []]), (0, .box [.int .i64, .int .i64, .sl (.mu 0), .sl (.mu 1)])], 3⟩
def x_check_isCond_186_0_0_1 : StS := ⟨[(4, .int .i64)], [(2, .box [.clo 123 [] []]), (1, .box [.clo 122 [] []]), (0, .box [.int .i64, .int .i64, .sl (.mu 0), .sl (.mu 1)])], 3⟩
abbrev X_check_isCond_186_0_0 := ((List (RT.C 1)) × Int × Int × Int × Int × (List (RT.C 0)) × (List (RT.C 1)))
def fl_check_isCond_186_0_0 (d : StD s_check_isCond_186_0_0) : X_check_isCond_186_0_0 := (d.1.1, d.1.2.2.1, d.1.2.2.2.1, d.2.2.2.1.1, d.2.2.2.1.2.1, d.2.2.2.1.2.2.1, d.2.2.2.1.2.2.2.1)
def un_check_isCond_186_0_0 (x : X_check_isCond_186_0_0) : StD s_check_isCond_186_0_0 := ((x.1, ((), ((), ())), x.2.1, x.2.2.1, ()), ((((), ()), ()), (((), ()), ()), (x.2.2.2.1, x.2.2.2.2.1, x.2.2.2.2.2.1, x.2.2.2.2.2.2, ()), ()))
abbrev X_check_isCond_186_0_0_0 := (Int × Int × (List (RT.C 0)) × (List (RT.C 1)))
def fl_check_isCond_186_0_0_0 (d : StD x_check_isCond_186_0_0_0) : X_check_isCond_186_0_0_0 := (d.2.2.2.1.1, d.2.2.2.1.2.1, d.2.2.2.1.2.2.1, d.2.2.2.1.2.2.2.1)
def un_check_isCond_186_0_0_0 (x : X_check_isCond_186_0_0_0) : StD x_check_isCond_186_0_0_0 := (((), ()), ((((), ()), ()), (((), ()), ()), (x.1, x.2.1, x.2.2.1, x.2.2.2, ()), ()))
abbrev X_check_isCond_186_0_0_1 := (Int × Int × Int × (List (RT.C 0)) × (List (RT.C 1)))
def fl_check_isCond_186_0_0_1 (d : StD x_check_isCond_186_0_0_1) : X_check_isCond_186_0_0_1 := (d.1.1, d.2.2.2.1.1, d.2.2.2.1.2.1, d.2.2.2.1.2.2.1, d.2.2.2.1.2.2.2.1)
def un_check_isCond_186_0_0_1 (x : X_check_isCond_186_0_0_1) : StD x_check_isCond_186_0_0_1 := ((x.1, ()), ((((), ()), ()), (((), ()), ()), (x.2.1, x.2.2.1, x.2.2.2.1, x.2.2.2.2, ()), ()))
noncomputable def st_check_isCond_186_0_0 (s0 : (List (RT.C 1))) (s7 : Int) (s8 : Int) (b0 : Int) (b0_1 : Int) (b0_2 : (List (RT.C 0))) (b0_3 : (List (RT.C 1))) : Option (((List (RT.C 1)) × Int × Int × Int × Int × (List (RT.C 0)) × (List (RT.C 1))) ⊕ ((Int × Int × (List (RT.C 0)) × (List (RT.C 1))) ⊕ (Int × Int × Int × (List (RT.C 0)) × (List (RT.C 1))))) :=
  bif decide (s8 < s7) then
 bif decide (0 ≤ s8) then
 optC s0[s8.toNat]? none fun d11 ↦
 optC (Rec_check_isCond.K (uT1 d11, ())) none fun d12 ↦
 bif !d12 then some (Sum.inr (Sum.inr (s8, b0, b0_1, b0_2, b0_3))) else some (Sum.inl (s0, s7, Go.IntKind.i64.wrap (s8 + 1), b0, b0_1, b0_2, b0_3))
 else none
 else some (Sum.inr (Sum.inl (b0, b0_1, b0_2, b0_3)))
noncomputable def sx_check_isCond_186_0_0 (x : X_check_isCond_186_0_0) : Option (X_check_isCond_186_0_0 ⊕ (X_check_isCond_186_0_0_0 ⊕ X_check_isCond_186_0_0_1)) := st_check_isCond_186_0_0 x.1 x.2.1 x.2.2.1 x.2.2.2.1 x.2.2.2.2.1 x.2.2.2.2.2.1 x.2.2.2.2.2.2
theorem rn_check_isCond_186_0_0 (x : X_check_isCond_186_0_0) : rdX cx_check_isCond_186_0 keeps 8 ⟨186, 19, keeps 186, 3⟩ 0 (bodyX 186 0) 3 kp_check_isCond_186_0 (sT s_check_isCond_186_0_0 (un_check_isCond_186_0_0 x)) (sH s_check_isCond_186_0_0 (un_check_isCond_186_0_0 x)) (rdO (fun T h => (rdS s_check_isCond_186_0_0 T h).map fl_check_isCond_186_0_0) (getOr (getE 2 x_check_isCond_186_0_0_0 fl_check_isCond_186_0_0_0) (getE 1 x_check_isCond_186_0_0_1 fl_check_isCond_186_0_0_1))) = sx_check_isCond_186_0_0 x := by kernel_rfl
noncomputable def L_check_isCond_186_0_0 (x : X_check_isCond_186_0_0) : Option (X_check_isCond_186_0_0_0 ⊕ X_check_isCond_186_0_0_1) := iterO (fun x => st_check_isCond_186_0_0 x.1 x.2.1 x.2.2.1 x.2.2.2.1 x.2.2.2.2.1 x.2.2.2.2.2.1 x.2.2.2.2.2.2) FUEL x
noncomputable def q_check_isCond_186_0 : Nat → Tm → Prog (Nat × Tm) := (varP 3 (fun T h => (rdS s_check_isCond_186_0_0 T h).map fl_check_isCond_186_0_0) L_check_isCond_186_0_0 (fun y => .alt y (altE 2 x_check_isCond_186_0_0_0 un_check_isCond_186_0_0_0) (altE 1 x_check_isCond_186_0_0_1 un_check_isCond_186_0_0_1)) (fun _ _ => .fail))
noncomputable def lc_check_isCond_186_0 : Lpc := ⟨186, 0, 19, (fun base T => .norm base (kp_check_isCond_186_0 0) T (q_check_isCond_186_0 base)), by kernel_rfl, by kernel_rfl, (loopU sp_check_isCond [lc_check_isCond_185_0] 40 (1048576 ^ 9) 8 (keep := kp_check_isCond_186_0) (q := q_check_isCond_186_0) (by kernel_rfl) (varX_ok (s := s_check_isCond_186_0_0) (un := un_check_isCond_186_0_0) (by rfl) (fun _ => rfl) (getOr_ok (getE_ok (s := x_check_isCond_186_0_0_0) (un := un_check_isCond_186_0_0_0) (by rfl) (fun _ => rfl)) (getE_ok (s := x_check_isCond_186_0_0_1) (un := un_check_isCond_186_0_0_1) (by rfl) (fun _ => rfl))) (step := sx_check_isCond_186_0_0) rn_check_isCond_186_0_0 (fun _ _ e => ⟨_, e⟩) (altOr_ok (altE_ok 2 x_check_isCond_186_0_0_0 un_check_isCond_186_0_0_0) (altE_ok 1 x_check_isCond_186_0_0_1 un_check_isCond_186_0_0_1)) (VarOk.fail _ _)))⟩
noncomputable def g_check_isCond (a0 : Cd) : Option Bool :=
  bif a0.1 == 1 then
 optC (G_check_isIn (a0.2.1, 1, 6, ())) none fun d5 ↦
 bif d5 then
 bif (↑(List.length a0.2.2.2) : Int) == 0 then
 bif (↑(List.length a0.2.2.1) : Int) == 2 then
 optC (L_check_isCond_185_0_0 (a0.2.2.1, (↑(List.length a0.2.2.1) : Int), 0, a0)) none fun d6 ↦
 Sum.elim
 (fun e7 ↦
 optC (L_check_isCond_186_0_0 (e7.2.2.2, (↑e7.2.2.2.length : Int), 0, e7)) none fun d8 ↦
 Sum.elim (fun e9 ↦ some !decide (-1 ≥ 0)) (fun e9 ↦ some !decide (e9.1 ≥ 0)) d8)
 (fun e7 ↦
 bif !decide (e7.1 ≥ 0) then
 optC (L_check_isCond_186_0_0 (e7.2.2.2.2, (↑e7.2.2.2.2.length : Int), 0, e7.2)) none fun d8 ↦
 Sum.elim (fun e9 ↦ some !decide (-1 ≥ 0)) (fun e9 ↦ some !decide (e9.1 ≥ 0)) d8
 else some false)
 d6
 else some false
 else some false
 else some false
 else
 bif a0.1 == 2 then
 bif (↑(List.length a0.2.2.2) : Int) == 1 then
 bif (↑(List.length a0.2.2.1) : Int) == 0 then
 optC (L_check_isCond_185_0_0 (a0.2.2.1, (↑(List.length a0.2.2.1) : Int), 0, a0)) none fun d5 ↦
 Sum.elim
 (fun e6 ↦
 optC (L_check_isCond_186_0_0 (e6.2.2.2, (↑e6.2.2.2.length : Int), 0, e6)) none fun d7 ↦
 Sum.elim (fun e8 ↦ some !decide (-1 ≥ 0)) (fun e8 ↦ some !decide (e8.1 ≥ 0)) d7)
 (fun e6 ↦
 bif !decide (e6.1 ≥ 0) then
 optC (L_check_isCond_186_0_0 (e6.2.2.2.2, (↑e6.2.2.2.2.length : Int), 0, e6.2)) none fun d7 ↦
 Sum.elim (fun e8 ↦ some !decide (-1 ≥ 0)) (fun e8 ↦ some !decide (e8.1 ≥ 0)) d7
 else some false)
 d5
 else some false
 else some false
 else
 bif a0.1 == 3 then
 bif (↑(List.length a0.2.2.2) : Int) == 2 then
 bif (↑(List.length a0.2.2.1) : Int) == 0 then
 optC (L_check_isCond_185_0_0 (a0.2.2.1, (↑(List.length a0.2.2.1) : Int), 0, a0)) none fun d5 ↦
 Sum.elim
 (fun e6 ↦
 optC (L_check_isCond_186_0_0 (e6.2.2.2, (↑e6.2.2.2.length : Int), 0, e6)) none fun d7 ↦
 Sum.elim (fun e8 ↦ some !decide (-1 ≥ 0)) (fun e8 ↦ some !decide (e8.1 ≥ 0)) d7)
 (fun e6 ↦
 bif !decide (e6.1 ≥ 0) then
 optC (L_check_isCond_186_0_0 (e6.2.2.2.2, (↑e6.2.2.2.2.length : Int), 0, e6.2)) none fun d7 ↦
 Sum.elim (fun e8 ↦ some !decide (-1 ≥ 0)) (fun e8 ↦ some !decide (e8.1 ≥ 0)) d7
 else some false)
 d5
 else some false
 else some false
 else
 bif a0.1 == 4 then
 bif (↑(List.length a0.2.2.2) : Int) == 2 then
 bif (↑(List.length a0.2.2.1) : Int) == 0 then
 optC (L_check_isCond_185_0_0 (a0.2.2.1, (↑(List.length a0.2.2.1) : Int), 0, a0)) none fun d5 ↦
 Sum.elim
 (fun e6 ↦
 optC (L_check_isCond_186_0_0 (e6.2.2.2, (↑e6.2.2.2.length : Int), 0, e6)) none fun d7 ↦
 Sum.elim (fun e8 ↦ some !decide (-1 ≥ 0)) (fun e8 ↦ some !decide (e8.1 ≥ 0)) d7)
 (fun e6 ↦
 bif !decide (e6.1 ≥ 0) then
 optC (L_check_isCond_186_0_0 (e6.2.2.2.2, (↑e6.2.2.2.2.length : Int), 0, e6.2)) none fun d7 ↦
 Sum.elim (fun e8 ↦ some !decide (-1 ≥ 0)) (fun e8 ↦ some !decide (e8.1 ≥ 0)) d7
 else some false)
 d5
 else some false
 else some false
 else some false
theorem raw_check_isCond (a0 : Cd) : evGX1 (cxU sp_check_isCond [lc_check_isCond_185_0, lc_check_isCond_186_0] 40 (1048576 ^ 9)) keeps 8 123 ash_check_isCond (.dat .bool) ((a0, ()) : (Cd × Unit)) = g_check_isCond a0 := by kernel_rfl
noncomputable def GI_check_isCond (x : (Cd × Unit)) : Option Bool := g_check_isCond x.1
noncomputable def conI_check_isCond : List AV → Prog AV := conP true ash_check_isCond (.dat .bool) GI_check_isCond
theorem sndI_check_isCond : SoundA Tryz.prog 123 conI_check_isCond := conP_sound (evF1_sound (tabOk_of tab_ok) (cmpsOk_of tab_ok cmps_ok) mixed (inU sp_check_isCond [lc_check_isCond_185_0, lc_check_isCond_186_0] 40 (1048576 ^ 9)) (hspL sp_check_isCond) keeps 8 123) true (by rfl) (by rfl) (fun x r e => (evGX1_eq _ _ _ _ _ _ _).trans ((raw_check_isCond x.1).trans e)) (.inl rfl)
end
noncomputable def it_check_isCond : Nat → {K : (Cd × Unit) → Option Bool // SoundA Tryz.prog 123 (conP true ash_check_isCond (.dat .bool) K)}
  | 0 => ⟨fun _ => none, conP_none⟩
  | k + 1 => letI : Rec_check_isCond := ⟨(it_check_isCond k).1, (it_check_isCond k).2⟩; ⟨GI_check_isCond, sndI_check_isCond⟩
noncomputable def G_check_isCond (x : (Cd × Unit)) : Option Bool := (it_check_isCond (SizeOf.sizeOf x + 1)).1 x
noncomputable def con_check_isCond : List AV → Prog AV := conP true ash_check_isCond (.dat .bool) G_check_isCond
theorem snd_check_isCond : SoundA Tryz.prog 123 con_check_isCond := conP_pick (sh := ash_check_isCond) (rs := .dat .bool) (n := fun x : (Cd × Unit) => SizeOf.sizeOf x + 1) (F := fun k => (it_check_isCond k).1) (fun k => (it_check_isCond k).2)
end Go.Proofs.YtmjbedjnojcmfaaGreatDoor.Ex

namespace Go.Proofs.YtmjbedjnojcmfaaGreatDoor.Ex
open Go.Proofs Go.Proofs.YtmjbedjnojcmfaaGreatDoor
set_option maxRecDepth 100000
set_option maxHeartbeats 2000000
set_option linter.unusedVariables false
set_option linter.unusedSimpArgs false
def ash_check_isStmt : List Sh := [.dat tSm]
def kp_check_isStmt_125_0 : Nat → List Nat := fun c => bif c.beq 0 then [0, 1, 7, 8] else [4]
class Rec_check_isStmt where
  K : (Stm × Unit) → Option Bool
  s : SoundA Tryz.prog 86 (conP true ash_check_isStmt (.dat .bool) K)
section
variable [Rec_check_isStmt]
noncomputable def sp_check_isStmt : List Con := [⟨81, con_check_isName, snd_check_isName⟩, ⟨122, con_check_isExpr, snd_check_isExpr⟩, ⟨123, con_check_isCond, snd_check_isCond⟩, ⟨86, (conP true ash_check_isStmt (.dat .bool) Rec_check_isStmt.K), Rec_check_isStmt.s⟩]
def s_check_isStmt_125_0_1 : StS := ⟨[(0, .sl (.mu 2)), (1, .clo 92 [] [.ptr 2 0]), (7, .int .i64), (8, .int .i64)], [(2, .box [.clo 86 [] []]), (1, .box [.clo 86 [] []]), (0, .box [.int .i64, .str, .int .i64, .int .i64, .int .i64, .str, .sl (.mu 0), .int .i64, .int .i64, .int .i64, .str, .sl (.mu 0), .int .i64, .int .i64, .sl (.mu 0), .sl (.mu 1), .sl (.mu 2), .sl (.mu 2)])], 3⟩
def x_check_isStmt_125_0_1_0 : StS := ⟨[(4, .undef)], [(2, .box [.clo 86 [] []]), (1, .box [.clo 86 [] []]), (0, .box [.int .i64, .str, .int .i64, .int .i64, .int .i64, .str, .sl (.mu 0), .int .i64, .int .i64, .int .i64, .str, .sl (.mu 0), .int .i64, .int .i64, .sl (.mu 0), .sl (.mu 1), .sl (.mu 2), .sl (.mu 2)])], 3⟩
def x_check_isStmt_125_0_1_1 : StS := ⟨[(4, .int .i64)], [(2, .box [.clo 86 [] []]), (1, .box [.clo 86 [] []]), (0, .box [.int .i64, .str, .int .i64, .int .i64, .int .i64, .str, .sl (.mu 0), .int .i64, .int .i64, .int .i64, .str, .sl (.mu 0), .int .i64, .int .i64, .sl (.mu 0), .sl (.mu 1), .sl (.mu 2), .sl (.mu 2)])], 3⟩
abbrev X_check_isStmt_125_0_1 := ((List (RT.C 2)) × Int × Int × Int × ByteArray × Int × Int × Int × ByteArray × (List (RT.C 0)) × Int × Int × Int × ByteArray × (List (RT.C 0)) × Int × Int × (List (RT.C 0)) × (List (RT.C 1)) × (List (RT.C 2)) × (List (RT.C 2)))
def fl_check_isStmt_125_0_1 (d : StD s_check_isStmt_125_0_1) : X_check_isStmt_125_0_1 := (d.1.1, d.1.2.2.1, d.1.2.2.2.1, d.2.2.2.1.1, d.2.2.2.1.2.1, d.2.2.2.1.2.2.1, d.2.2.2.1.2.2.2.1, d.2.2.2.1.2.2.2.2.1, d.2.2.2.1.2.2.2.2.2.1, d.2.2.2.1.2.2.2.2.2.2.1, d.2.2.2.1.2.2.2.2.2.2.2.1, d.2.2.2.1.2.2.2.2.2.2.2.2.1, d.2.2.2.1.2.2.2.2.2.2.2.2.2.1, d.2.2.2.1.2.2.2.2.2.2.2.2.2.2.1, d.2.2.2.1.2.2.2.2.2.2.2.2.2.2.2.1, d.2.2.2.1.2.2.2.2.2.2.2.2.2.2.2.2.1, d.2.2.2.1.2.2.2.2.2.2.2.2.2.2.2.2.2.1, d.2.2.2.1.2.2.2.2.2.2.2.2.2.2.2.2.2.2.1, d.2.2.2.1.2.2.2.2.2.2.2.2.2.2.2.2.2.2.2.1, d.2.2.2.1.2.2.2.2.2.2.2.2.2.2.2.2.2.2.2.2.1, d.2.2.2.1.2.2.2.2.2.2.2.2.2.2.2.2.2.2.2.2.2.1)
def un_check_isStmt_125_0_1 (x : X_check_isStmt_125_0_1) : StD s_check_isStmt_125_0_1 := ((x.1, ((), ((), ())), x.2.1, x.2.2.1, ()), ((((), ()), ()), (((), ()), ()), (x.2.2.2.1, x.2.2.2.2.1, x.2.2.2.2.2.1, x.2.2.2.2.2.2.1, x.2.2.2.2.2.2.2.1, x.2.2.2.2.2.2.2.2.1, x.2.2.2.2.2.2.2.2.2.1, x.2.2.2.2.2.2.2.2.2.2.1, x.2.2.2.2.2.2.2.2.2.2.2.1, x.2.2.2.2.2.2.2.2.2.2.2.2.1, x.2.2.2.2.2.2.2.2.2.2.2.2.2.1, x.2.2.2.2.2.2.2.2.2.2.2.2.2.2.1, x.2.2.2.2.2.2.2.2.2.2.2.2.2.2.2.1, x.2.2.2.2.2.2.2.2.2.2.2.2.2.2.2.2.1, x.2.2.2.2.2.2.2.2.2.2.2.2.2.2.2.2.2.1, x.2.2.2.2.2.2.2.2.2.2.2.2.2.2.2.2.2.2.1, x.2.2.2.2.2.2.2.2.2.2.2.2.2.2.2.2.2.2.2.1, x.2.2.2.2.2.2.2.2.2.2.2.2.2.2.2.2.2.2.2.2, ()), ()))
abbrev X_check_isStmt_125_0_1_0 := (Int × ByteArray × Int × Int × Int × ByteArray × (List (RT.C 0)) × Int × Int × Int × ByteArray × (List (RT.C 0)) × Int × Int × (List (RT.C 0)) × (List (RT.C 1)) × (List (RT.C 2)) × (List (RT.C 2)))
def fl_check_isStmt_125_0_1_0 (d : StD x_check_isStmt_125_0_1_0) : X_check_isStmt_125_0_1_0 := (d.2.2.2.1.1, d.2.2.2.1.2.1, d.2.2.2.1.2.2.1, d.2.2.2.1.2.2.2.1, d.2.2.2.1.2.2.2.2.1, d.2.2.2.1.2.2.2.2.2.1, d.2.2.2.1.2.2.2.2.2.2.1, d.2.2.2.1.2.2.2.2.2.2.2.1, d.2.2.2.1.2.2.2.2.2.2.2.2.1, d.2.2.2.1.2.2.2.2.2.2.2.2.2.1, d.2.2.2.1.2.2.2.2.2.2.2.2.2.2.1, d.2.2.2.1.2.2.2.2.2.2.2.2.2.2.2.1, d.2.2.2.1.2.2.2.2.2.2.2.2.2.2.2.2.1, d.2.2.2.1.2.2.2.2.2.2.2.2.2.2.2.2.2.1, d.2.2.2.1.2.2.2.2.2.2.2.2.2.2.2.2.2.2.1, d.2.2.2.1.2.2.2.2.2.2.2.2.2.2.2.2.2.2.2.1, d.2.2.2.1.2.2.2.2.2.2.2.2.2.2.2.2.2.2.2.2.1, d.2.2.2.1.2.2.2.2.2.2.2.2.2.2.2.2.2.2.2.2.2.1)
def un_check_isStmt_125_0_1_0 (x : X_check_isStmt_125_0_1_0) : StD x_check_isStmt_125_0_1_0 := (((), ()), ((((), ()), ()), (((), ()), ()), (x.1, x.2.1, x.2.2.1, x.2.2.2.1, x.2.2.2.2.1, x.2.2.2.2.2.1, x.2.2.2.2.2.2.1, x.2.2.2.2.2.2.2.1, x.2.2.2.2.2.2.2.2.1, x.2.2.2.2.2.2.2.2.2.1, x.2.2.2.2.2.2.2.2.2.2.1, x.2.2.2.2.2.2.2.2.2.2.2.1, x.2.2.2.2.2.2.2.2.2.2.2.2.1, x.2.2.2.2.2.2.2.2.2.2.2.2.2.1, x.2.2.2.2.2.2.2.2.2.2.2.2.2.2.1, x.2.2.2.2.2.2.2.2.2.2.2.2.2.2.2.1, x.2.2.2.2.2.2.2.2.2.2.2.2.2.2.2.2.1, x.2.2.2.2.2.2.2.2.2.2.2.2.2.2.2.2.2, ()), ()))
abbrev X_check_isStmt_125_0_1_1 := (Int × Int × ByteArray × Int × Int × Int × ByteArray × (List (RT.C 0)) × Int × Int × Int × ByteArray × (List (RT.C 0)) × Int × Int × (List (RT.C 0)) × (List (RT.C 1)) × (List (RT.C 2)) × (List (RT.C 2)))
def fl_check_isStmt_125_0_1_1 (d : StD x_check_isStmt_125_0_1_1) : X_check_isStmt_125_0_1_1 := (d.1.1, d.2.2.2.1.1, d.2.2.2.1.2.1, d.2.2.2.1.2.2.1, d.2.2.2.1.2.2.2.1, d.2.2.2.1.2.2.2.2.1, d.2.2.2.1.2.2.2.2.2.1, d.2.2.2.1.2.2.2.2.2.2.1, d.2.2.2.1.2.2.2.2.2.2.2.1, d.2.2.2.1.2.2.2.2.2.2.2.2.1, d.2.2.2.1.2.2.2.2.2.2.2.2.2.1, d.2.2.2.1.2.2.2.2.2.2.2.2.2.2.1, d.2.2.2.1.2.2.2.2.2.2.2.2.2.2.2.1, d.2.2.2.1.2.2.2.2.2.2.2.2.2.2.2.2.1, d.2.2.2.1.2.2.2.2.2.2.2.2.2.2.2.2.2.1, d.2.2.2.1.2.2.2.2.2.2.2.2.2.2.2.2.2.2.1, d.2.2.2.1.2.2.2.2.2.2.2.2.2.2.2.2.2.2.2.1, d.2.2.2.1.2.2.2.2.2.2.2.2.2.2.2.2.2.2.2.2.1, d.2.2.2.1.2.2.2.2.2.2.2.2.2.2.2.2.2.2.2.2.2.1)
def un_check_isStmt_125_0_1_1 (x : X_check_isStmt_125_0_1_1) : StD x_check_isStmt_125_0_1_1 := ((x.1, ()), ((((), ()), ()), (((), ()), ()), (x.2.1, x.2.2.1, x.2.2.2.1, x.2.2.2.2.1, x.2.2.2.2.2.1, x.2.2.2.2.2.2.1, x.2.2.2.2.2.2.2.1, x.2.2.2.2.2.2.2.2.1, x.2.2.2.2.2.2.2.2.2.1, x.2.2.2.2.2.2.2.2.2.2.1, x.2.2.2.2.2.2.2.2.2.2.2.1, x.2.2.2.2.2.2.2.2.2.2.2.2.1, x.2.2.2.2.2.2.2.2.2.2.2.2.2.1, x.2.2.2.2.2.2.2.2.2.2.2.2.2.2.1, x.2.2.2.2.2.2.2.2.2.2.2.2.2.2.2.1, x.2.2.2.2.2.2.2.2.2.2.2.2.2.2.2.2.1, x.2.2.2.2.2.2.2.2.2.2.2.2.2.2.2.2.2.1, x.2.2.2.2.2.2.2.2.2.2.2.2.2.2.2.2.2.2, ()), ()))
noncomputable def st_check_isStmt_125_0_1 (s0 : (List (RT.C 2))) (s7 : Int) (s8 : Int) (b0 : Int) (b0_1 : ByteArray) (b0_2 : Int) (b0_3 : Int) (b0_4 : Int) (b0_5 : ByteArray) (b0_6 : (List (RT.C 0))) (b0_7 : Int) (b0_8 : Int) (b0_9 : Int) (b0_10 : ByteArray) (b0_11 : (List (RT.C 0))) (b0_12 : Int) (b0_13 : Int) (b0_14 : (List (RT.C 0))) (b0_15 : (List (RT.C 1))) (b0_16 : (List (RT.C 2))) (b0_17 : (List (RT.C 2))) : Option (((List (RT.C 2)) × Int × Int × Int × ByteArray × Int × Int × Int × ByteArray × (List (RT.C 0)) × Int × Int × Int × ByteArray × (List (RT.C 0)) × Int × Int × (List (RT.C 0)) × (List (RT.C 1)) × (List (RT.C 2)) × (List (RT.C 2))) ⊕ ((Int × ByteArray × Int × Int × Int × ByteArray × (List (RT.C 0)) × Int × Int × Int × ByteArray × (List (RT.C 0)) × Int × Int × (List (RT.C 0)) × (List (RT.C 1)) × (List (RT.C 2)) × (List (RT.C 2))) ⊕ (Int × Int × ByteArray × Int × Int × Int × ByteArray × (List (RT.C 0)) × Int × Int × Int × ByteArray × (List (RT.C 0)) × Int × Int × (List (RT.C 0)) × (List (RT.C 1)) × (List (RT.C 2)) × (List (RT.C 2))))) :=
  bif decide (s8 < s7) then
 bif decide (0 ≤ s8) then
 optC s0[s8.toNat]? none fun d25 ↦
 optC (Rec_check_isStmt.K (uT2 d25, ())) none fun d26 ↦
 bif !d26 then some (Sum.inr (Sum.inr (s8, b0, b0_1, b0_2, b0_3, b0_4, b0_5, b0_6, b0_7, b0_8, b0_9, b0_10, b0_11, b0_12, b0_13, b0_14, b0_15, b0_16, b0_17)))
 else some (Sum.inl (s0, s7, Go.IntKind.i64.wrap (s8 + 1), b0, b0_1, b0_2, b0_3, b0_4, b0_5, b0_6, b0_7, b0_8, b0_9, b0_10, b0_11, b0_12, b0_13, b0_14, b0_15, b0_16, b0_17))
 else none
 else some (Sum.inr (Sum.inl (b0, b0_1, b0_2, b0_3, b0_4, b0_5, b0_6, b0_7, b0_8, b0_9, b0_10, b0_11, b0_12, b0_13, b0_14, b0_15, b0_16, b0_17)))
noncomputable def sx_check_isStmt_125_0_1 (x : X_check_isStmt_125_0_1) : Option (X_check_isStmt_125_0_1 ⊕ (X_check_isStmt_125_0_1_0 ⊕ X_check_isStmt_125_0_1_1)) := st_check_isStmt_125_0_1 x.1 x.2.1 x.2.2.1 x.2.2.2.1 x.2.2.2.2.1 x.2.2.2.2.2.1 x.2.2.2.2.2.2.1 x.2.2.2.2.2.2.2.1 x.2.2.2.2.2.2.2.2.1 x.2.2.2.2.2.2.2.2.2.1 x.2.2.2.2.2.2.2.2.2.2.1 x.2.2.2.2.2.2.2.2.2.2.2.1 x.2.2.2.2.2.2.2.2.2.2.2.2.1 x.2.2.2.2.2.2.2.2.2.2.2.2.2.1 x.2.2.2.2.2.2.2.2.2.2.2.2.2.2.1 x.2.2.2.2.2.2.2.2.2.2.2.2.2.2.2.1 x.2.2.2.2.2.2.2.2.2.2.2.2.2.2.2.2.1 x.2.2.2.2.2.2.2.2.2.2.2.2.2.2.2.2.2.1 x.2.2.2.2.2.2.2.2.2.2.2.2.2.2.2.2.2.2.1 x.2.2.2.2.2.2.2.2.2.2.2.2.2.2.2.2.2.2.2.1 x.2.2.2.2.2.2.2.2.2.2.2.2.2.2.2.2.2.2.2.2
theorem rn_check_isStmt_125_0_1 (x : X_check_isStmt_125_0_1) : rdX (cxU sp_check_isStmt [] 40 (1048576 ^ 9)) keeps 8 ⟨125, 19, keeps 125, 3⟩ 0 (bodyX 125 0) 3 kp_check_isStmt_125_0 (sT s_check_isStmt_125_0_1 (un_check_isStmt_125_0_1 x)) (sH s_check_isStmt_125_0_1 (un_check_isStmt_125_0_1 x)) (rdO (fun T h => (rdS s_check_isStmt_125_0_1 T h).map fl_check_isStmt_125_0_1) (getOr (getE 2 x_check_isStmt_125_0_1_0 fl_check_isStmt_125_0_1_0) (getE 1 x_check_isStmt_125_0_1_1 fl_check_isStmt_125_0_1_1))) = sx_check_isStmt_125_0_1 x := by kernel_rfl
noncomputable def L_check_isStmt_125_0_1 (x : X_check_isStmt_125_0_1) : Option (X_check_isStmt_125_0_1_0 ⊕ X_check_isStmt_125_0_1_1) := iterO (fun x => st_check_isStmt_125_0_1 x.1 x.2.1 x.2.2.1 x.2.2.2.1 x.2.2.2.2.1 x.2.2.2.2.2.1 x.2.2.2.2.2.2.1 x.2.2.2.2.2.2.2.1 x.2.2.2.2.2.2.2.2.1 x.2.2.2.2.2.2.2.2.2.1 x.2.2.2.2.2.2.2.2.2.2.1 x.2.2.2.2.2.2.2.2.2.2.2.1 x.2.2.2.2.2.2.2.2.2.2.2.2.1 x.2.2.2.2.2.2.2.2.2.2.2.2.2.1 x.2.2.2.2.2.2.2.2.2.2.2.2.2.2.1 x.2.2.2.2.2.2.2.2.2.2.2.2.2.2.2.1 x.2.2.2.2.2.2.2.2.2.2.2.2.2.2.2.2.1 x.2.2.2.2.2.2.2.2.2.2.2.2.2.2.2.2.2.1 x.2.2.2.2.2.2.2.2.2.2.2.2.2.2.2.2.2.2.1 x.2.2.2.2.2.2.2.2.2.2.2.2.2.2.2.2.2.2.2.1 x.2.2.2.2.2.2.2.2.2.2.2.2.2.2.2.2.2.2.2.2) FUEL x
def s_check_isStmt_125_0_0 : StS := ⟨[(0, .sl (.mu 2)), (1, .clo 92 [] [.ptr 1 0]), (7, .int .i64), (8, .int .i64)], [(1, .box [.clo 86 [] []]), (0, .box [.int .i64, .str, .int .i64, .int .i64, .int .i64, .str, .sl (.mu 0), .int .i64, .int .i64, .int .i64, .str, .sl (.mu 0), .int .i64, .int .i64, .sl (.mu 0), .sl (.mu 1), .sl (.mu 2), .sl (.mu 2)])], 2⟩
def x_check_isStmt_125_0_0_0 : StS := ⟨[(4, .undef)], [(1, .box [.clo 86 [] []]), (0, .box [.int .i64, .str, .int .i64, .int .i64, .int .i64, .str, .sl (.mu 0), .int .i64, .int .i64, .int .i64, .str, .sl (.mu 0), .int .i64, .int .i64, .sl (.mu 0), .sl (.mu 1), .sl (.mu 2), .sl (.mu 2)])], 2⟩
def x_check_isStmt_125_0_0_1 : StS := ⟨[(4, .int .i64)], [(1, .box [.clo 86 [] []]), (0, .box [.int .i64, .str, .int .i64, .int .i64, .int .i64, .str, .sl (.mu 0), .int .i64, .int .i64, .int .i64, .str, .sl (.mu 0), .int .i64, .int .i64, .sl (.mu 0), .sl (.mu 1), .sl (.mu 2), .sl (.mu 2)])], 2⟩
abbrev X_check_isStmt_125_0_0 := ((List (RT.C 2)) × Int × Int × Int × ByteArray × Int × Int × Int × ByteArray × (List (RT.C 0)) × Int × Int × Int × ByteArray × (List (RT.C 0)) × Int × Int × (List (RT.C 0)) × (List (RT.C 1)) × (List (RT.C 2)) × (List (RT.C 2)))
def fl_check_isStmt_125_0_0 (d : StD s_check_isStmt_125_0_0) : X_check_isStmt_125_0_0 := (d.1.1, d.1.2.2.1, d.1.2.2.2.1, d.2.2.1.1, d.2.2.1.2.1, d.2.2.1.2.2.1, d.2.2.1.2.2.2.1, d.2.2.1.2.2.2.2.1, d.2.2.1.2.2.2.2.2.1, d.2.2.1.2.2.2.2.2.2.1, d.2.2.1.2.2.2.2.2.2.2.1, d.2.2.1.2.2.2.2.2.2.2.2.1, d.2.2.1.2.2.2.2.2.2.2.2.2.1, d.2.2.1.2.2.2.2.2.2.2.2.2.2.1, d.2.2.1.2.2.2.2.2.2.2.2.2.2.2.1, d.2.2.1.2.2.2.2.2.2.2.2.2.2.2.2.1, d.2.2.1.2.2.2.2.2.2.2.2.2.2.2.2.2.1, d.2.2.1.2.2.2.2.2.2.2.2.2.2.2.2.2.2.1, d.2.2.1.2.2.2.2.2.2.2.2.2.2.2.2.2.2.2.1, d.2.2.1.2.2.2.2.2.2.2.2.2.2.2.2.2.2.2.2.1, d.2.2.1.2.2.2.2.2.2.2.2.2.2.2.2.2.2.2.2.2.1)
def un_check_isStmt_125_0_0 (x : X_check_isStmt_125_0_0) : StD s_check_isStmt_125_0_0 := ((x.1, ((), ((), ())), x.2.1, x.2.2.1, ()), ((((), ()), ()), (x.2.2.2.1, x.2.2.2.2.1, x.2.2.2.2.2.1, x.2.2.2.2.2.2.1, x.2.2.2.2.2.2.2.1, x.2.2.2.2.2.2.2.2.1, x.2.2.2.2.2.2.2.2.2.1, x.2.2.2.2.2.2.2.2.2.2.1, x.2.2.2.2.2.2.2.2.2.2.2.1, x.2.2.2.2.2.2.2.2.2.2.2.2.1, x.2.2.2.2.2.2.2.2.2.2.2.2.2.1, x.2.2.2.2.2.2.2.2.2.2.2.2.2.2.1, x.2.2.2.2.2.2.2.2.2.2.2.2.2.2.2.1, x.2.2.2.2.2.2.2.2.2.2.2.2.2.2.2.2.1, x.2.2.2.2.2.2.2.2.2.2.2.2.2.2.2.2.2.1, x.2.2.2.2.2.2.2.2.2.2.2.2.2.2.2.2.2.2.1, x.2.2.2.2.2.2.2.2.2.2.2.2.2.2.2.2.2.2.2.1, x.2.2.2.2.2.2.2.2.2.2.2.2.2.2.2.2.2.2.2.2, ()), ()))
abbrev X_check_isStmt_125_0_0_0 := (Int × ByteArray × Int × Int × Int × ByteArray × (List (RT.C 0)) × Int × Int × Int × ByteArray × (List (RT.C 0)) × Int × Int × (List (RT.C 0)) × (List (RT.C 1)) × (List (RT.C 2)) × (List (RT.C 2)))
def fl_check_isStmt_125_0_0_0 (d : StD x_check_isStmt_125_0_0_0) : X_check_isStmt_125_0_0_0 := (d.2.2.1.1, d.2.2.1.2.1, d.2.2.1.2.2.1, d.2.2.1.2.2.2.1, d.2.2.1.2.2.2.2.1, d.2.2.1.2.2.2.2.2.1, d.2.2.1.2.2.2.2.2.2.1, d.2.2.1.2.2.2.2.2.2.2.1, d.2.2.1.2.2.2.2.2.2.2.2.1, d.2.2.1.2.2.2.2.2.2.2.2.2.1, d.2.2.1.2.2.2.2.2.2.2.2.2.2.1, d.2.2.1.2.2.2.2.2.2.2.2.2.2.2.1, d.2.2.1.2.2.2.2.2.2.2.2.2.2.2.2.1, d.2.2.1.2.2.2.2.2.2.2.2.2.2.2.2.2.1, d.2.2.1.2.2.2.2.2.2.2.2.2.2.2.2.2.2.1, d.2.2.1.2.2.2.2.2.2.2.2.2.2.2.2.2.2.2.1, d.2.2.1.2.2.2.2.2.2.2.2.2.2.2.2.2.2.2.2.1, d.2.2.1.2.2.2.2.2.2.2.2.2.2.2.2.2.2.2.2.2.1)
def un_check_isStmt_125_0_0_0 (x : X_check_isStmt_125_0_0_0) : StD x_check_isStmt_125_0_0_0 := (((), ()), ((((), ()), ()), (x.1, x.2.1, x.2.2.1, x.2.2.2.1, x.2.2.2.2.1, x.2.2.2.2.2.1, x.2.2.2.2.2.2.1, x.2.2.2.2.2.2.2.1, x.2.2.2.2.2.2.2.2.1, x.2.2.2.2.2.2.2.2.2.1, x.2.2.2.2.2.2.2.2.2.2.1, x.2.2.2.2.2.2.2.2.2.2.2.1, x.2.2.2.2.2.2.2.2.2.2.2.2.1, x.2.2.2.2.2.2.2.2.2.2.2.2.2.1, x.2.2.2.2.2.2.2.2.2.2.2.2.2.2.1, x.2.2.2.2.2.2.2.2.2.2.2.2.2.2.2.1, x.2.2.2.2.2.2.2.2.2.2.2.2.2.2.2.2.1, x.2.2.2.2.2.2.2.2.2.2.2.2.2.2.2.2.2, ()), ()))
abbrev X_check_isStmt_125_0_0_1 := (Int × Int × ByteArray × Int × Int × Int × ByteArray × (List (RT.C 0)) × Int × Int × Int × ByteArray × (List (RT.C 0)) × Int × Int × (List (RT.C 0)) × (List (RT.C 1)) × (List (RT.C 2)) × (List (RT.C 2)))
def fl_check_isStmt_125_0_0_1 (d : StD x_check_isStmt_125_0_0_1) : X_check_isStmt_125_0_0_1 := (d.1.1, d.2.2.1.1, d.2.2.1.2.1, d.2.2.1.2.2.1, d.2.2.1.2.2.2.1, d.2.2.1.2.2.2.2.1, d.2.2.1.2.2.2.2.2.1, d.2.2.1.2.2.2.2.2.2.1, d.2.2.1.2.2.2.2.2.2.2.1, d.2.2.1.2.2.2.2.2.2.2.2.1, d.2.2.1.2.2.2.2.2.2.2.2.2.1, d.2.2.1.2.2.2.2.2.2.2.2.2.2.1, d.2.2.1.2.2.2.2.2.2.2.2.2.2.2.1, d.2.2.1.2.2.2.2.2.2.2.2.2.2.2.2.1, d.2.2.1.2.2.2.2.2.2.2.2.2.2.2.2.2.1, d.2.2.1.2.2.2.2.2.2.2.2.2.2.2.2.2.2.1, d.2.2.1.2.2.2.2.2.2.2.2.2.2.2.2.2.2.2.1, d.2.2.1.2.2.2.2.2.2.2.2.2.2.2.2.2.2.2.2.1, d.2.2.1.2.2.2.2.2.2.2.2.2.2.2.2.2.2.2.2.2.1)
def un_check_isStmt_125_0_0_1 (x : X_check_isStmt_125_0_0_1) : StD x_check_isStmt_125_0_0_1 := ((x.1, ()), ((((), ()), ()), (x.2.1, x.2.2.1, x.2.2.2.1, x.2.2.2.2.1, x.2.2.2.2.2.1, x.2.2.2.2.2.2.1, x.2.2.2.2.2.2.2.1, x.2.2.2.2.2.2.2.2.1, x.2.2.2.2.2.2.2.2.2.1, x.2.2.2.2.2.2.2.2.2.2.1, x.2.2.2.2.2.2.2.2.2.2.2.1, x.2.2.2.2.2.2.2.2.2.2.2.2.1, x.2.2.2.2.2.2.2.2.2.2.2.2.2.1, x.2.2.2.2.2.2.2.2.2.2.2.2.2.2.1, x.2.2.2.2.2.2.2.2.2.2.2.2.2.2.2.1, x.2.2.2.2.2.2.2.2.2.2.2.2.2.2.2.2.1, x.2.2.2.2.2.2.2.2.2.2.2.2.2.2.2.2.2.1, x.2.2.2.2.2.2.2.2.2.2.2.2.2.2.2.2.2.2, ()), ()))
noncomputable def st_check_isStmt_125_0_0 (s0 : (List (RT.C 2))) (s7 : Int) (s8 : Int) (b0 : Int) (b0_1 : ByteArray) (b0_2 : Int) (b0_3 : Int) (b0_4 : Int) (b0_5 : ByteArray) (b0_6 : (List (RT.C 0))) (b0_7 : Int) (b0_8 : Int) (b0_9 : Int) (b0_10 : ByteArray) (b0_11 : (List (RT.C 0))) (b0_12 : Int) (b0_13 : Int) (b0_14 : (List (RT.C 0))) (b0_15 : (List (RT.C 1))) (b0_16 : (List (RT.C 2))) (b0_17 : (List (RT.C 2))) : Option (((List (RT.C 2)) × Int × Int × Int × ByteArray × Int × Int × Int × ByteArray × (List (RT.C 0)) × Int × Int × Int × ByteArray × (List (RT.C 0)) × Int × Int × (List (RT.C 0)) × (List (RT.C 1)) × (List (RT.C 2)) × (List (RT.C 2))) ⊕ ((Int × ByteArray × Int × Int × Int × ByteArray × (List (RT.C 0)) × Int × Int × Int × ByteArray × (List (RT.C 0)) × Int × Int × (List (RT.C 0)) × (List (RT.C 1)) × (List (RT.C 2)) × (List (RT.C 2))) ⊕ (Int × Int × ByteArray × Int × Int × Int × ByteArray × (List (RT.C 0)) × Int × Int × Int × ByteArray × (List (RT.C 0)) × Int × Int × (List (RT.C 0)) × (List (RT.C 1)) × (List (RT.C 2)) × (List (RT.C 2))))) :=
  bif decide (s8 < s7) then
 bif decide (0 ≤ s8) then
 optC s0[s8.toNat]? none fun d25 ↦
 optC (Rec_check_isStmt.K (uT2 d25, ())) none fun d26 ↦
 bif !d26 then some (Sum.inr (Sum.inr (s8, b0, b0_1, b0_2, b0_3, b0_4, b0_5, b0_6, b0_7, b0_8, b0_9, b0_10, b0_11, b0_12, b0_13, b0_14, b0_15, b0_16, b0_17)))
 else some (Sum.inl (s0, s7, Go.IntKind.i64.wrap (s8 + 1), b0, b0_1, b0_2, b0_3, b0_4, b0_5, b0_6, b0_7, b0_8, b0_9, b0_10, b0_11, b0_12, b0_13, b0_14, b0_15, b0_16, b0_17))
 else none
 else some (Sum.inr (Sum.inl (b0, b0_1, b0_2, b0_3, b0_4, b0_5, b0_6, b0_7, b0_8, b0_9, b0_10, b0_11, b0_12, b0_13, b0_14, b0_15, b0_16, b0_17)))
noncomputable def sx_check_isStmt_125_0_0 (x : X_check_isStmt_125_0_0) : Option (X_check_isStmt_125_0_0 ⊕ (X_check_isStmt_125_0_0_0 ⊕ X_check_isStmt_125_0_0_1)) := st_check_isStmt_125_0_0 x.1 x.2.1 x.2.2.1 x.2.2.2.1 x.2.2.2.2.1 x.2.2.2.2.2.1 x.2.2.2.2.2.2.1 x.2.2.2.2.2.2.2.1 x.2.2.2.2.2.2.2.2.1 x.2.2.2.2.2.2.2.2.2.1 x.2.2.2.2.2.2.2.2.2.2.1 x.2.2.2.2.2.2.2.2.2.2.2.1 x.2.2.2.2.2.2.2.2.2.2.2.2.1 x.2.2.2.2.2.2.2.2.2.2.2.2.2.1 x.2.2.2.2.2.2.2.2.2.2.2.2.2.2.1 x.2.2.2.2.2.2.2.2.2.2.2.2.2.2.2.1 x.2.2.2.2.2.2.2.2.2.2.2.2.2.2.2.2.1 x.2.2.2.2.2.2.2.2.2.2.2.2.2.2.2.2.2.1 x.2.2.2.2.2.2.2.2.2.2.2.2.2.2.2.2.2.2.1 x.2.2.2.2.2.2.2.2.2.2.2.2.2.2.2.2.2.2.2.1 x.2.2.2.2.2.2.2.2.2.2.2.2.2.2.2.2.2.2.2.2
theorem rn_check_isStmt_125_0_0 (x : X_check_isStmt_125_0_0) : rdX (cxU sp_check_isStmt [] 40 (1048576 ^ 9)) keeps 8 ⟨125, 19, keeps 125, 2⟩ 0 (bodyX 125 0) 2 kp_check_isStmt_125_0 (sT s_check_isStmt_125_0_0 (un_check_isStmt_125_0_0 x)) (sH s_check_isStmt_125_0_0 (un_check_isStmt_125_0_0 x)) (rdO (fun T h => (rdS s_check_isStmt_125_0_0 T h).map fl_check_isStmt_125_0_0) (getOr (getE 2 x_check_isStmt_125_0_0_0 fl_check_isStmt_125_0_0_0) (getE 1 x_check_isStmt_125_0_0_1 fl_check_isStmt_125_0_0_1))) = sx_check_isStmt_125_0_0 x := by kernel_rfl
noncomputable def L_check_isStmt_125_0_0 (x : X_check_isStmt_125_0_0) : Option (X_check_isStmt_125_0_0_0 ⊕ X_check_isStmt_125_0_0_1) := iterO (fun x => st_check_isStmt_125_0_0 x.1 x.2.1 x.2.2.1 x.2.2.2.1 x.2.2.2.2.1 x.2.2.2.2.2.1 x.2.2.2.2.2.2.1 x.2.2.2.2.2.2.2.1 x.2.2.2.2.2.2.2.2.1 x.2.2.2.2.2.2.2.2.2.1 x.2.2.2.2.2.2.2.2.2.2.1 x.2.2.2.2.2.2.2.2.2.2.2.1 x.2.2.2.2.2.2.2.2.2.2.2.2.1 x.2.2.2.2.2.2.2.2.2.2.2.2.2.1 x.2.2.2.2.2.2.2.2.2.2.2.2.2.2.1 x.2.2.2.2.2.2.2.2.2.2.2.2.2.2.2.1 x.2.2.2.2.2.2.2.2.2.2.2.2.2.2.2.2.1 x.2.2.2.2.2.2.2.2.2.2.2.2.2.2.2.2.2.1 x.2.2.2.2.2.2.2.2.2.2.2.2.2.2.2.2.2.2.1 x.2.2.2.2.2.2.2.2.2.2.2.2.2.2.2.2.2.2.2.1 x.2.2.2.2.2.2.2.2.2.2.2.2.2.2.2.2.2.2.2.2) FUEL x
noncomputable def q_check_isStmt_125_0 : Nat → Tm → Prog (Nat × Tm) := (varP 2 (fun T h => (rdS s_check_isStmt_125_0_0 T h).map fl_check_isStmt_125_0_0) L_check_isStmt_125_0_0 (fun y => .alt y (altE 2 x_check_isStmt_125_0_0_0 un_check_isStmt_125_0_0_0) (altE 1 x_check_isStmt_125_0_0_1 un_check_isStmt_125_0_0_1)) (varP 3 (fun T h => (rdS s_check_isStmt_125_0_1 T h).map fl_check_isStmt_125_0_1) L_check_isStmt_125_0_1 (fun y => .alt y (altE 2 x_check_isStmt_125_0_1_0 un_check_isStmt_125_0_1_0) (altE 1 x_check_isStmt_125_0_1_1 un_check_isStmt_125_0_1_1)) (fun _ _ => .fail)))
noncomputable def lc_check_isStmt_125_0 : Lpc := ⟨125, 0, 19, (fun base T => .norm base (kp_check_isStmt_125_0 0) T (q_check_isStmt_125_0 base)), by kernel_rfl, by kernel_rfl, (loopU sp_check_isStmt [] 40 (1048576 ^ 9) 8 (keep := kp_check_isStmt_125_0) (q := q_check_isStmt_125_0) (by kernel_rfl) (varX_ok (s := s_check_isStmt_125_0_0) (un := un_check_isStmt_125_0_0) (by rfl) (fun _ => rfl) (getOr_ok (getE_ok (s := x_check_isStmt_125_0_0_0) (un := un_check_isStmt_125_0_0_0) (by rfl) (fun _ => rfl)) (getE_ok (s := x_check_isStmt_125_0_0_1) (un := un_check_isStmt_125_0_0_1) (by rfl) (fun _ => rfl))) (step := sx_check_isStmt_125_0_0) rn_check_isStmt_125_0_0 (fun _ _ e => ⟨_, e⟩) (altOr_ok (altE_ok 2 x_check_isStmt_125_0_0_0 un_check_isStmt_125_0_0_0) (altE_ok 1 x_check_isStmt_125_0_0_1 un_check_isStmt_125_0_0_1)) (varX_ok (s := s_check_isStmt_125_0_1) (un := un_check_isStmt_125_0_1) (by rfl) (fun _ => rfl) (getOr_ok (getE_ok (s := x_check_isStmt_125_0_1_0) (un := un_check_isStmt_125_0_1_0) (by rfl) (fun _ => rfl)) (getE_ok (s := x_check_isStmt_125_0_1_1) (un := un_check_isStmt_125_0_1_1) (by rfl) (fun _ => rfl))) (step := sx_check_isStmt_125_0_1) rn_check_isStmt_125_0_1 (fun _ _ e => ⟨_, e⟩) (altOr_ok (altE_ok 2 x_check_isStmt_125_0_1_0 un_check_isStmt_125_0_1_0) (altE_ok 1 x_check_isStmt_125_0_1_1 un_check_isStmt_125_0_1_1)) (VarOk.fail _ _))))⟩
noncomputable def g_check_isStmt (a0 : Stm) : Option Bool :=
  bif a0.1 == 1 then
 optC (G_check_isName (a0.2.1, ())) none fun d5 ↦
 bif d5 then optC (G_check_isExpr (a0.2.2.2.1, ())) none fun d6 ↦ some d6 else some false
 else
 bif a0.1 == 2 then
 optC (G_check_isName (a0.2.1, ())) none fun d5 ↦
 bif d5 then
 optC (G_check_isExpr (a0.2.2.1, ())) none fun d6 ↦
 bif d6 then optC (G_check_isExpr (a0.2.2.2.1, ())) none fun d7 ↦ some d7 else some false
 else some false
 else
 bif a0.1 == 3 then optC (G_check_isName (a0.2.1, ())) none fun d5 ↦ some d5
 else
 bif a0.1 == 4 then optC (G_check_isName (a0.2.1, ())) none fun d5 ↦ some d5
 else
 bif a0.1 == 5 then
 optC (G_check_isCond (a0.2.2.2.2.1, ())) none fun d5 ↦
 bif d5 then
 optC
 (L_check_isStmt_125_0_0
 (a0.2.2.2.2.2.1, (↑(List.length a0.2.2.2.2.2.1) : Int), 0, a0.1, a0.2.1, a0.2.2.1.1, a0.2.2.1.2.1, a0.2.2.1.2.2.1,
 a0.2.2.1.2.2.2.1, a0.2.2.1.2.2.2.2, a0.2.2.2.1.1, a0.2.2.2.1.2.1, a0.2.2.2.1.2.2.1,
 a0.2.2.2.1.2.2.2.1, a0.2.2.2.1.2.2.2.2, a0.2.2.2.2.1.1, a0.2.2.2.2.1.2.1, a0.2.2.2.2.1.2.2.1,
 a0.2.2.2.2.1.2.2.2, a0.2.2.2.2.2))
 none fun d6 ↦
 Sum.elim
 (fun e7 ↦
 optC
 (L_check_isStmt_125_0_1
 (e7.2.2.2.2.2.2.2.2.2.2.2.2.2.2.2.2.2, (↑e7.2.2.2.2.2.2.2.2.2.2.2.2.2.2.2.2.2.length : Int), 0, e7))
 none fun d8 ↦ Sum.elim (fun e9 ↦ some !decide (-1 ≥ 0)) (fun e9 ↦ some !decide (e9.1 ≥ 0)) d8)
 (fun e7 ↦
 bif !decide (e7.1 ≥ 0) then
 optC
 (L_check_isStmt_125_0_1
 (e7.2.2.2.2.2.2.2.2.2.2.2.2.2.2.2.2.2.2, (↑e7.2.2.2.2.2.2.2.2.2.2.2.2.2.2.2.2.2.2.length : Int), 0,
 e7.2))
 none fun d8 ↦ Sum.elim (fun e9 ↦ some !decide (-1 ≥ 0)) (fun e9 ↦ some !decide (e9.1 ≥ 0)) d8
 else some false)
 d6
 else some false
 else
 bif a0.1 == 6 then
 optC (G_check_isCond (a0.2.2.2.2.1, ())) none fun d5 ↦
 bif d5 then
 optC
 (L_check_isStmt_125_0_0
 (a0.2.2.2.2.2.1, (↑(List.length a0.2.2.2.2.2.1) : Int), 0, a0.1, a0.2.1, a0.2.2.1.1, a0.2.2.1.2.1, a0.2.2.1.2.2.1,
 a0.2.2.1.2.2.2.1, a0.2.2.1.2.2.2.2, a0.2.2.2.1.1, a0.2.2.2.1.2.1, a0.2.2.2.1.2.2.1,
 a0.2.2.2.1.2.2.2.1, a0.2.2.2.1.2.2.2.2, a0.2.2.2.2.1.1, a0.2.2.2.2.1.2.1, a0.2.2.2.2.1.2.2.1,
 a0.2.2.2.2.1.2.2.2, a0.2.2.2.2.2))
 none fun d6 ↦ Sum.elim (fun e7 ↦ some !decide (-1 ≥ 0)) (fun e7 ↦ some !decide (e7.1 ≥ 0)) d6
 else some false
 else bif a0.1 == 7 then optC (G_check_isCond (a0.2.2.2.2.1, ())) none fun d5 ↦ some d5 else some (a0.1 == 8)
theorem raw_check_isStmt (a0 : Stm) : evGX1 (cxU sp_check_isStmt [lc_check_isStmt_125_0] 40 (1048576 ^ 9)) keeps 8 86 ash_check_isStmt (.dat .bool) ((a0, ()) : (Stm × Unit)) = g_check_isStmt a0 := by kernel_rfl
noncomputable def GI_check_isStmt (x : (Stm × Unit)) : Option Bool := g_check_isStmt x.1
noncomputable def conI_check_isStmt : List AV → Prog AV := conP true ash_check_isStmt (.dat .bool) GI_check_isStmt
theorem sndI_check_isStmt : SoundA Tryz.prog 86 conI_check_isStmt := conP_sound (evF1_sound (tabOk_of tab_ok) (cmpsOk_of tab_ok cmps_ok) mixed (inU sp_check_isStmt [lc_check_isStmt_125_0] 40 (1048576 ^ 9)) (hspL sp_check_isStmt) keeps 8 86) true (by rfl) (by rfl) (fun x r e => (evGX1_eq _ _ _ _ _ _ _).trans ((raw_check_isStmt x.1).trans e)) (.inl rfl)
end
noncomputable def it_check_isStmt : Nat → {K : (Stm × Unit) → Option Bool // SoundA Tryz.prog 86 (conP true ash_check_isStmt (.dat .bool) K)}
  | 0 => ⟨fun _ => none, conP_none⟩
  | k + 1 => letI : Rec_check_isStmt := ⟨(it_check_isStmt k).1, (it_check_isStmt k).2⟩; ⟨GI_check_isStmt, sndI_check_isStmt⟩
noncomputable def G_check_isStmt (x : (Stm × Unit)) : Option Bool := (it_check_isStmt (SizeOf.sizeOf x + 1)).1 x
noncomputable def con_check_isStmt : List AV → Prog AV := conP true ash_check_isStmt (.dat .bool) G_check_isStmt
theorem snd_check_isStmt : SoundA Tryz.prog 86 con_check_isStmt := conP_pick (sh := ash_check_isStmt) (rs := .dat .bool) (n := fun x : (Stm × Unit) => SizeOf.sizeOf x + 1) (F := fun k => (it_check_isStmt k).1) (fun k => (it_check_isStmt k).2)
end Go.Proofs.YtmjbedjnojcmfaaGreatDoor.Ex

namespace Go.Proofs.YtmjbedjnojcmfaaGreatDoor.Ex
open Go.Proofs Go.Proofs.YtmjbedjnojcmfaaGreatDoor
set_option maxRecDepth 100000
set_option maxHeartbeats 2000000
set_option linter.unusedVariables false
set_option linter.unusedSimpArgs false
def ash_check_isForm : List Sh := [.dat tPg]
def kp_check_isForm_47_0 : Nat → List Nat := fun c => bif c.beq 0 then [0, 1, 7, 8] else [4]
def kp_check_isForm_49_0 : Nat → List Nat := fun c => bif c.beq 0 then [0, 1, 7, 8] else [4]
def kp_check_isForm_125_0 : Nat → List Nat := fun c => bif c.beq 0 then [0, 1, 7, 8] else [4]
def kp_check_isForm_124_0 : Nat → List Nat := fun c => bif c.beq 0 then [0, 1, 7, 8] else [4]
noncomputable def sp_check_isForm : List Con := [⟨78, con_check_areNames, snd_check_areNames⟩, ⟨81, con_check_isName, snd_check_isName⟩, ⟨86, con_check_isStmt, snd_check_isStmt⟩, ⟨84, con_check_isIn, snd_check_isIn⟩, ⟨55, con_num_Fits, snd_num_Fits⟩]
def s_check_isForm_47_0_0 : StS := ⟨[(0, .sl tGb), (1, .clo 117 [] [.ptr 1 0]), (7, .int .i64), (8, .int .i64)], [(1, .box [.clo 80 [] []]), (0, .box [.sl tGb, .sl tGb, .sl .str, .sl tTh])], 2⟩
def x_check_isForm_47_0_0_0 : StS := ⟨[(4, .undef)], [(1, .box [.clo 80 [] []]), (0, .box [.sl tGb, .sl tGb, .sl .str, .sl tTh])], 2⟩
def x_check_isForm_47_0_0_1 : StS := ⟨[(4, .int .i64)], [(1, .box [.clo 80 [] []]), (0, .box [.sl tGb, .sl tGb, .sl .str, .sl tTh])], 2⟩
abbrev X_check_isForm_47_0_0 := ((List Gb) × Int × Int × (List Gb) × (List Gb) × (List ByteArray) × (List Th))
def fl_check_isForm_47_0_0 (d : StD s_check_isForm_47_0_0) : X_check_isForm_47_0_0 := (d.1.1, d.1.2.2.1, d.1.2.2.2.1, d.2.2.1.1, d.2.2.1.2.1, d.2.2.1.2.2.1, d.2.2.1.2.2.2.1)
def un_check_isForm_47_0_0 (x : X_check_isForm_47_0_0) : StD s_check_isForm_47_0_0 := ((x.1, ((), ((), ())), x.2.1, x.2.2.1, ()), ((((), ()), ()), (x.2.2.2.1, x.2.2.2.2.1, x.2.2.2.2.2.1, x.2.2.2.2.2.2, ()), ()))
abbrev X_check_isForm_47_0_0_0 := ((List Gb) × (List Gb) × (List ByteArray) × (List Th))
def fl_check_isForm_47_0_0_0 (d : StD x_check_isForm_47_0_0_0) : X_check_isForm_47_0_0_0 := (d.2.2.1.1, d.2.2.1.2.1, d.2.2.1.2.2.1, d.2.2.1.2.2.2.1)
def un_check_isForm_47_0_0_0 (x : X_check_isForm_47_0_0_0) : StD x_check_isForm_47_0_0_0 := (((), ()), ((((), ()), ()), (x.1, x.2.1, x.2.2.1, x.2.2.2, ()), ()))
abbrev X_check_isForm_47_0_0_1 := (Int × (List Gb) × (List Gb) × (List ByteArray) × (List Th))
def fl_check_isForm_47_0_0_1 (d : StD x_check_isForm_47_0_0_1) : X_check_isForm_47_0_0_1 := (d.1.1, d.2.2.1.1, d.2.2.1.2.1, d.2.2.1.2.2.1, d.2.2.1.2.2.2.1)
def un_check_isForm_47_0_0_1 (x : X_check_isForm_47_0_0_1) : StD x_check_isForm_47_0_0_1 := ((x.1, ()), ((((), ()), ()), (x.2.1, x.2.2.1, x.2.2.2.1, x.2.2.2.2, ()), ()))
noncomputable def st_check_isForm_47_0_0 (s0 : (List Gb)) (s7 : Int) (s8 : Int) (b0 : (List Gb)) (b0_1 : (List Gb)) (b0_2 : (List ByteArray)) (b0_3 : (List Th)) : Option (((List Gb) × Int × Int × (List Gb) × (List Gb) × (List ByteArray) × (List Th)) ⊕ (((List Gb) × (List Gb) × (List ByteArray) × (List Th)) ⊕ (Int × (List Gb) × (List Gb) × (List ByteArray) × (List Th)))) :=
  bif decide (s8 < s7) then
 bif decide (0 ≤ s8) then
 optC s0[s8.toNat]? none fun d12 ↦
 optC (G_check_isName (d12.1, ())) none fun d13 ↦
 bif d13 then
 optC (G_num_Fits ([d12.2], ())) none fun d14 ↦
 bif !d14 then some (Sum.inr (Sum.inr (s8, b0, b0_1, b0_2, b0_3))) else some (Sum.inl (s0, s7, Go.IntKind.i64.wrap (s8 + 1), b0, b0_1, b0_2, b0_3))
 else some (Sum.inr (Sum.inr (s8, b0, b0_1, b0_2, b0_3)))
 else none
 else some (Sum.inr (Sum.inl (b0, b0_1, b0_2, b0_3)))
noncomputable def sx_check_isForm_47_0_0 (x : X_check_isForm_47_0_0) : Option (X_check_isForm_47_0_0 ⊕ (X_check_isForm_47_0_0_0 ⊕ X_check_isForm_47_0_0_1)) := st_check_isForm_47_0_0 x.1 x.2.1 x.2.2.1 x.2.2.2.1 x.2.2.2.2.1 x.2.2.2.2.2.1 x.2.2.2.2.2.2
theorem rn_check_isForm_47_0_0 (x : X_check_isForm_47_0_0) : rdX (cxU sp_check_isForm [] 40 1048576) keeps 8 ⟨47, 19, keeps 47, 2⟩ 0 (bodyX 47 0) 2 kp_check_isForm_47_0 (sT s_check_isForm_47_0_0 (un_check_isForm_47_0_0 x)) (sH s_check_isForm_47_0_0 (un_check_isForm_47_0_0 x)) (rdO (fun T h => (rdS s_check_isForm_47_0_0 T h).map fl_check_isForm_47_0_0) (getOr (getE 2 x_check_isForm_47_0_0_0 fl_check_isForm_47_0_0_0) (getE 1 x_check_isForm_47_0_0_1 fl_check_isForm_47_0_0_1))) = sx_check_isForm_47_0_0 x := by kernel_rfl
noncomputable def L_check_isForm_47_0_0 (x : X_check_isForm_47_0_0) : Option (X_check_isForm_47_0_0_0 ⊕ X_check_isForm_47_0_0_1) := iterO (fun x => st_check_isForm_47_0_0 x.1 x.2.1 x.2.2.1 x.2.2.2.1 x.2.2.2.2.1 x.2.2.2.2.2.1 x.2.2.2.2.2.2) FUEL x
noncomputable def q_check_isForm_47_0 : Nat → Tm → Prog (Nat × Tm) := (varP 2 (fun T h => (rdS s_check_isForm_47_0_0 T h).map fl_check_isForm_47_0_0) L_check_isForm_47_0_0 (fun y => .alt y (altE 2 x_check_isForm_47_0_0_0 un_check_isForm_47_0_0_0) (altE 1 x_check_isForm_47_0_0_1 un_check_isForm_47_0_0_1)) (fun _ _ => .fail))
noncomputable def lc_check_isForm_47_0 : Lpc := ⟨47, 0, 19, (fun base T => .norm base (kp_check_isForm_47_0 0) T (q_check_isForm_47_0 base)), by kernel_rfl, by kernel_rfl, (loopU sp_check_isForm [] 40 1048576 8 (keep := kp_check_isForm_47_0) (q := q_check_isForm_47_0) (by kernel_rfl) (varX_ok (s := s_check_isForm_47_0_0) (un := un_check_isForm_47_0_0) (by rfl) (fun _ => rfl) (getOr_ok (getE_ok (s := x_check_isForm_47_0_0_0) (un := un_check_isForm_47_0_0_0) (by rfl) (fun _ => rfl)) (getE_ok (s := x_check_isForm_47_0_0_1) (un := un_check_isForm_47_0_0_1) (by rfl) (fun _ => rfl))) (step := sx_check_isForm_47_0_0) rn_check_isForm_47_0_0 (fun _ _ e => ⟨_, e⟩) (altOr_ok (altE_ok 2 x_check_isForm_47_0_0_0 un_check_isForm_47_0_0_0) (altE_ok 1 x_check_isForm_47_0_0_1 un_check_isForm_47_0_0_1)) (VarOk.fail _ _)))⟩
noncomputable abbrev cx_check_isForm_49_0 := cxU sp_check_isForm [lc_check_isForm_47_0] 40 1048576
def s_check_isForm_49_0_0 : StS := ⟨[(0, .sl tGb), (1, .clo 121 [] [.ptr 2 0]), (7, .int .i64), (8, .int .i64)], [(2, .box [.clo 83 [] []]), (1, .box [.clo 80 [] []]), (0, .box [.sl tGb, .sl tGb, .sl .str, .sl tTh])], 3⟩
def x_check_isForm_49_0_0_0 : StS := ⟨[(4, .undef)], [(2, .box [.clo 83 [] []]), (1, .box [.clo 80 [] []]), (0, .box [.sl tGb, .sl tGb, .sl .str, .sl tTh])], 3⟩
def x_check_isForm_49_0_0_1 : StS := ⟨[(4, .int .i64)], [(2, .box [.clo 83 [] []]), (1, .box [.clo 80 [] []]), (0, .box [.sl tGb, .sl tGb, .sl .str, .sl tTh])], 3⟩
abbrev X_check_isForm_49_0_0 := ((List Gb) × Int × Int × (List Gb) × (List Gb) × (List ByteArray) × (List Th))
def fl_check_isForm_49_0_0 (d : StD s_check_isForm_49_0_0) : X_check_isForm_49_0_0 := (d.1.1, d.1.2.2.1, d.1.2.2.2.1, d.2.2.2.1.1, d.2.2.2.1.2.1, d.2.2.2.1.2.2.1, d.2.2.2.1.2.2.2.1)
def un_check_isForm_49_0_0 (x : X_check_isForm_49_0_0) : StD s_check_isForm_49_0_0 := ((x.1, ((), ((), ())), x.2.1, x.2.2.1, ()), ((((), ()), ()), (((), ()), ()), (x.2.2.2.1, x.2.2.2.2.1, x.2.2.2.2.2.1, x.2.2.2.2.2.2, ()), ()))
abbrev X_check_isForm_49_0_0_0 := ((List Gb) × (List Gb) × (List ByteArray) × (List Th))
def fl_check_isForm_49_0_0_0 (d : StD x_check_isForm_49_0_0_0) : X_check_isForm_49_0_0_0 := (d.2.2.2.1.1, d.2.2.2.1.2.1, d.2.2.2.1.2.2.1, d.2.2.2.1.2.2.2.1)
def un_check_isForm_49_0_0_0 (x : X_check_isForm_49_0_0_0) : StD x_check_isForm_49_0_0_0 := (((), ()), ((((), ()), ()), (((), ()), ()), (x.1, x.2.1, x.2.2.1, x.2.2.2, ()), ()))
abbrev X_check_isForm_49_0_0_1 := (Int × (List Gb) × (List Gb) × (List ByteArray) × (List Th))
def fl_check_isForm_49_0_0_1 (d : StD x_check_isForm_49_0_0_1) : X_check_isForm_49_0_0_1 := (d.1.1, d.2.2.2.1.1, d.2.2.2.1.2.1, d.2.2.2.1.2.2.1, d.2.2.2.1.2.2.2.1)
def un_check_isForm_49_0_0_1 (x : X_check_isForm_49_0_0_1) : StD x_check_isForm_49_0_0_1 := ((x.1, ()), ((((), ()), ()), (((), ()), ()), (x.2.1, x.2.2.1, x.2.2.2.1, x.2.2.2.2, ()), ()))
noncomputable def st_check_isForm_49_0_0 (s0 : (List Gb)) (s7 : Int) (s8 : Int) (b0 : (List Gb)) (b0_1 : (List Gb)) (b0_2 : (List ByteArray)) (b0_3 : (List Th)) : Option (((List Gb) × Int × Int × (List Gb) × (List Gb) × (List ByteArray) × (List Th)) ⊕ (((List Gb) × (List Gb) × (List ByteArray) × (List Th)) ⊕ (Int × (List Gb) × (List Gb) × (List ByteArray) × (List Th)))) :=
  bif decide (s8 < s7) then
 bif decide (0 ≤ s8) then
 optC s0[s8.toNat]? none fun d12 ↦
 optC (G_check_isName (d12.1, ())) none fun d13 ↦
 bif d13 then
 optC (G_check_isIn (d12.2, 1, 16, ())) none fun d14 ↦
 bif !d14 then some (Sum.inr (Sum.inr (s8, b0, b0_1, b0_2, b0_3))) else some (Sum.inl (s0, s7, Go.IntKind.i64.wrap (s8 + 1), b0, b0_1, b0_2, b0_3))
 else some (Sum.inr (Sum.inr (s8, b0, b0_1, b0_2, b0_3)))
 else none
 else some (Sum.inr (Sum.inl (b0, b0_1, b0_2, b0_3)))
noncomputable def sx_check_isForm_49_0_0 (x : X_check_isForm_49_0_0) : Option (X_check_isForm_49_0_0 ⊕ (X_check_isForm_49_0_0_0 ⊕ X_check_isForm_49_0_0_1)) := st_check_isForm_49_0_0 x.1 x.2.1 x.2.2.1 x.2.2.2.1 x.2.2.2.2.1 x.2.2.2.2.2.1 x.2.2.2.2.2.2
theorem rn_check_isForm_49_0_0 (x : X_check_isForm_49_0_0) : rdX cx_check_isForm_49_0 keeps 8 ⟨49, 19, keeps 49, 3⟩ 0 (bodyX 49 0) 3 kp_check_isForm_49_0 (sT s_check_isForm_49_0_0 (un_check_isForm_49_0_0 x)) (sH s_check_isForm_49_0_0 (un_check_isForm_49_0_0 x)) (rdO (fun T h => (rdS s_check_isForm_49_0_0 T h).map fl_check_isForm_49_0_0) (getOr (getE 2 x_check_isForm_49_0_0_0 fl_check_isForm_49_0_0_0) (getE 1 x_check_isForm_49_0_0_1 fl_check_isForm_49_0_0_1))) = sx_check_isForm_49_0_0 x := by kernel_rfl
noncomputable def L_check_isForm_49_0_0 (x : X_check_isForm_49_0_0) : Option (X_check_isForm_49_0_0_0 ⊕ X_check_isForm_49_0_0_1) := iterO (fun x => st_check_isForm_49_0_0 x.1 x.2.1 x.2.2.1 x.2.2.2.1 x.2.2.2.2.1 x.2.2.2.2.2.1 x.2.2.2.2.2.2) FUEL x
noncomputable def q_check_isForm_49_0 : Nat → Tm → Prog (Nat × Tm) := (varP 3 (fun T h => (rdS s_check_isForm_49_0_0 T h).map fl_check_isForm_49_0_0) L_check_isForm_49_0_0 (fun y => .alt y (altE 2 x_check_isForm_49_0_0_0 un_check_isForm_49_0_0_0) (altE 1 x_check_isForm_49_0_0_1 un_check_isForm_49_0_0_1)) (fun _ _ => .fail))
noncomputable def lc_check_isForm_49_0 : Lpc := ⟨49, 0, 19, (fun base T => .norm base (kp_check_isForm_49_0 0) T (q_check_isForm_49_0 base)), by kernel_rfl, by kernel_rfl, (loopU sp_check_isForm [lc_check_isForm_47_0] 40 1048576 8 (keep := kp_check_isForm_49_0) (q := q_check_isForm_49_0) (by kernel_rfl) (varX_ok (s := s_check_isForm_49_0_0) (un := un_check_isForm_49_0_0) (by rfl) (fun _ => rfl) (getOr_ok (getE_ok (s := x_check_isForm_49_0_0_0) (un := un_check_isForm_49_0_0_0) (by rfl) (fun _ => rfl)) (getE_ok (s := x_check_isForm_49_0_0_1) (un := un_check_isForm_49_0_0_1) (by rfl) (fun _ => rfl))) (step := sx_check_isForm_49_0_0) rn_check_isForm_49_0_0 (fun _ _ e => ⟨_, e⟩) (altOr_ok (altE_ok 2 x_check_isForm_49_0_0_0 un_check_isForm_49_0_0_0) (altE_ok 1 x_check_isForm_49_0_0_1 un_check_isForm_49_0_0_1)) (VarOk.fail _ _)))⟩
noncomputable abbrev cx_check_isForm_125_0 := cxU sp_check_isForm [lc_check_isForm_47_0, lc_check_isForm_49_0] 40 1048576
def s_check_isForm_125_0_0 : StS := ⟨[(0, .sl (.mu 2)), (1, .clo 92 [] [.ptr 6 0]), (7, .int .i64), (8, .int .i64)], [(6, .box [.clo 86 [] []]), (5, .box [.str, .sl .str, .sl (.mu 2)]), (4, .box [.str, .sl .str, .sl (.mu 2)]), (3, .box [.clo 85 [] []]), (2, .box [.clo 83 [] []]), (1, .box [.clo 80 [] []]), (0, .box [.sl tGb, .sl tGb, .sl .str, .sl tTh])], 7⟩
def x_check_isForm_125_0_0_0 : StS := ⟨[(4, .undef)], [(6, .box [.clo 86 [] []]), (5, .box [.str, .sl .str, .sl (.mu 2)]), (4, .box [.str, .sl .str, .sl (.mu 2)]), (3, .box [.clo 85 [] []]), (2, .box [.clo 83 [] []]), (1, .box [.clo 80 [] []]), (0, .box [.sl tGb, .sl tGb, .sl .str, .sl tTh])], 7⟩
def x_check_isForm_125_0_0_1 : StS := ⟨[(4, .int .i64)], [(6, .box [.clo 86 [] []]), (5, .box [.str, .sl .str, .sl (.mu 2)]), (4, .box [.str, .sl .str, .sl (.mu 2)]), (3, .box [.clo 85 [] []]), (2, .box [.clo 83 [] []]), (1, .box [.clo 80 [] []]), (0, .box [.sl tGb, .sl tGb, .sl .str, .sl tTh])], 7⟩
abbrev X_check_isForm_125_0_0 := ((List (RT.C 2)) × Int × Int × ByteArray × (List ByteArray) × (List (RT.C 2)) × ByteArray × (List ByteArray) × (List (RT.C 2)) × (List Gb) × (List Gb) × (List ByteArray) × (List Th))
def fl_check_isForm_125_0_0 (d : StD s_check_isForm_125_0_0) : X_check_isForm_125_0_0 := (d.1.1, d.1.2.2.1, d.1.2.2.2.1, d.2.2.1.1, d.2.2.1.2.1, d.2.2.1.2.2.1, d.2.2.2.1.1, d.2.2.2.1.2.1, d.2.2.2.1.2.2.1, d.2.2.2.2.2.2.2.1.1, d.2.2.2.2.2.2.2.1.2.1, d.2.2.2.2.2.2.2.1.2.2.1, d.2.2.2.2.2.2.2.1.2.2.2.1)
def un_check_isForm_125_0_0 (x : X_check_isForm_125_0_0) : StD s_check_isForm_125_0_0 := ((x.1, ((), ((), ())), x.2.1, x.2.2.1, ()), ((((), ()), ()), (x.2.2.2.1, x.2.2.2.2.1, x.2.2.2.2.2.1, ()), (x.2.2.2.2.2.2.1, x.2.2.2.2.2.2.2.1, x.2.2.2.2.2.2.2.2.1, ()), (((), ()), ()), (((), ()), ()), (((), ()), ()), (x.2.2.2.2.2.2.2.2.2.1, x.2.2.2.2.2.2.2.2.2.2.1, x.2.2.2.2.2.2.2.2.2.2.2.1, x.2.2.2.2.2.2.2.2.2.2.2.2, ()), ()))
abbrev X_check_isForm_125_0_0_0 := (ByteArray × (List ByteArray) × (List (RT.C 2)) × ByteArray × (List ByteArray) × (List (RT.C 2)) × (List Gb) × (List Gb) × (List ByteArray) × (List Th))
def fl_check_isForm_125_0_0_0 (d : StD x_check_isForm_125_0_0_0) : X_check_isForm_125_0_0_0 := (d.2.2.1.1, d.2.2.1.2.1, d.2.2.1.2.2.1, d.2.2.2.1.1, d.2.2.2.1.2.1, d.2.2.2.1.2.2.1, d.2.2.2.2.2.2.2.1.1, d.2.2.2.2.2.2.2.1.2.1, d.2.2.2.2.2.2.2.1.2.2.1, d.2.2.2.2.2.2.2.1.2.2.2.1)
def un_check_isForm_125_0_0_0 (x : X_check_isForm_125_0_0_0) : StD x_check_isForm_125_0_0_0 := (((), ()), ((((), ()), ()), (x.1, x.2.1, x.2.2.1, ()), (x.2.2.2.1, x.2.2.2.2.1, x.2.2.2.2.2.1, ()), (((), ()), ()), (((), ()), ()), (((), ()), ()), (x.2.2.2.2.2.2.1, x.2.2.2.2.2.2.2.1, x.2.2.2.2.2.2.2.2.1, x.2.2.2.2.2.2.2.2.2, ()), ()))
abbrev X_check_isForm_125_0_0_1 := (Int × ByteArray × (List ByteArray) × (List (RT.C 2)) × ByteArray × (List ByteArray) × (List (RT.C 2)) × (List Gb) × (List Gb) × (List ByteArray) × (List Th))
def fl_check_isForm_125_0_0_1 (d : StD x_check_isForm_125_0_0_1) : X_check_isForm_125_0_0_1 := (d.1.1, d.2.2.1.1, d.2.2.1.2.1, d.2.2.1.2.2.1, d.2.2.2.1.1, d.2.2.2.1.2.1, d.2.2.2.1.2.2.1, d.2.2.2.2.2.2.2.1.1, d.2.2.2.2.2.2.2.1.2.1, d.2.2.2.2.2.2.2.1.2.2.1, d.2.2.2.2.2.2.2.1.2.2.2.1)
def un_check_isForm_125_0_0_1 (x : X_check_isForm_125_0_0_1) : StD x_check_isForm_125_0_0_1 := ((x.1, ()), ((((), ()), ()), (x.2.1, x.2.2.1, x.2.2.2.1, ()), (x.2.2.2.2.1, x.2.2.2.2.2.1, x.2.2.2.2.2.2.1, ()), (((), ()), ()), (((), ()), ()), (((), ()), ()), (x.2.2.2.2.2.2.2.1, x.2.2.2.2.2.2.2.2.1, x.2.2.2.2.2.2.2.2.2.1, x.2.2.2.2.2.2.2.2.2.2, ()), ()))
noncomputable def st_check_isForm_125_0_0 (s0 : (List (RT.C 2))) (s7 : Int) (s8 : Int) (b5 : ByteArray) (b5_1 : (List ByteArray)) (b5_2 : (List (RT.C 2))) (b4 : ByteArray) (b4_1 : (List ByteArray)) (b4_2 : (List (RT.C 2))) (b0 : (List Gb)) (b0_1 : (List Gb)) (b0_2 : (List ByteArray)) (b0_3 : (List Th)) : Option (((List (RT.C 2)) × Int × Int × ByteArray × (List ByteArray) × (List (RT.C 2)) × ByteArray × (List ByteArray) × (List (RT.C 2)) × (List Gb) × (List Gb) × (List ByteArray) × (List Th)) ⊕ ((ByteArray × (List ByteArray) × (List (RT.C 2)) × ByteArray × (List ByteArray) × (List (RT.C 2)) × (List Gb) × (List Gb) × (List ByteArray) × (List Th)) ⊕ (Int × ByteArray × (List ByteArray) × (List (RT.C 2)) × ByteArray × (List ByteArray) × (List (RT.C 2)) × (List Gb) × (List Gb) × (List ByteArray) × (List Th)))) :=
  bif decide (s8 < s7) then
 bif decide (0 ≤ s8) then
 optC s0[s8.toNat]? none fun d18 ↦
 optC (G_check_isStmt (uT2 d18, ())) none fun d19 ↦
 bif !d19 then some (Sum.inr (Sum.inr (s8, b5, b5_1, b5_2, b4, b4_1, b4_2, b0, b0_1, b0_2, b0_3)))
 else some (Sum.inl (s0, s7, Go.IntKind.i64.wrap (s8 + 1), b5, b5_1, b5_2, b4, b4_1, b4_2, b0, b0_1, b0_2, b0_3))
 else none
 else some (Sum.inr (Sum.inl (b5, b5_1, b5_2, b4, b4_1, b4_2, b0, b0_1, b0_2, b0_3)))
noncomputable def sx_check_isForm_125_0_0 (x : X_check_isForm_125_0_0) : Option (X_check_isForm_125_0_0 ⊕ (X_check_isForm_125_0_0_0 ⊕ X_check_isForm_125_0_0_1)) := st_check_isForm_125_0_0 x.1 x.2.1 x.2.2.1 x.2.2.2.1 x.2.2.2.2.1 x.2.2.2.2.2.1 x.2.2.2.2.2.2.1 x.2.2.2.2.2.2.2.1 x.2.2.2.2.2.2.2.2.1 x.2.2.2.2.2.2.2.2.2.1 x.2.2.2.2.2.2.2.2.2.2.1 x.2.2.2.2.2.2.2.2.2.2.2.1 x.2.2.2.2.2.2.2.2.2.2.2.2
theorem rn_check_isForm_125_0_0 (x : X_check_isForm_125_0_0) : rdX cx_check_isForm_125_0 keeps 8 ⟨125, 19, keeps 125, 7⟩ 0 (bodyX 125 0) 7 kp_check_isForm_125_0 (sT s_check_isForm_125_0_0 (un_check_isForm_125_0_0 x)) (sH s_check_isForm_125_0_0 (un_check_isForm_125_0_0 x)) (rdO (fun T h => (rdS s_check_isForm_125_0_0 T h).map fl_check_isForm_125_0_0) (getOr (getE 2 x_check_isForm_125_0_0_0 fl_check_isForm_125_0_0_0) (getE 1 x_check_isForm_125_0_0_1 fl_check_isForm_125_0_0_1))) = sx_check_isForm_125_0_0 x := by kernel_rfl
noncomputable def L_check_isForm_125_0_0 (x : X_check_isForm_125_0_0) : Option (X_check_isForm_125_0_0_0 ⊕ X_check_isForm_125_0_0_1) := iterO (fun x => st_check_isForm_125_0_0 x.1 x.2.1 x.2.2.1 x.2.2.2.1 x.2.2.2.2.1 x.2.2.2.2.2.1 x.2.2.2.2.2.2.1 x.2.2.2.2.2.2.2.1 x.2.2.2.2.2.2.2.2.1 x.2.2.2.2.2.2.2.2.2.1 x.2.2.2.2.2.2.2.2.2.2.1 x.2.2.2.2.2.2.2.2.2.2.2.1 x.2.2.2.2.2.2.2.2.2.2.2.2) FUEL x
noncomputable def q_check_isForm_125_0 : Nat → Tm → Prog (Nat × Tm) := (varP 7 (fun T h => (rdS s_check_isForm_125_0_0 T h).map fl_check_isForm_125_0_0) L_check_isForm_125_0_0 (fun y => .alt y (altE 2 x_check_isForm_125_0_0_0 un_check_isForm_125_0_0_0) (altE 1 x_check_isForm_125_0_0_1 un_check_isForm_125_0_0_1)) (fun _ _ => .fail))
noncomputable def lc_check_isForm_125_0 : Lpc := ⟨125, 0, 19, (fun base T => .norm base (kp_check_isForm_125_0 0) T (q_check_isForm_125_0 base)), by kernel_rfl, by kernel_rfl, (loopU sp_check_isForm [lc_check_isForm_47_0, lc_check_isForm_49_0] 40 1048576 8 (keep := kp_check_isForm_125_0) (q := q_check_isForm_125_0) (by kernel_rfl) (varX_ok (s := s_check_isForm_125_0_0) (un := un_check_isForm_125_0_0) (by rfl) (fun _ => rfl) (getOr_ok (getE_ok (s := x_check_isForm_125_0_0_0) (un := un_check_isForm_125_0_0_0) (by rfl) (fun _ => rfl)) (getE_ok (s := x_check_isForm_125_0_0_1) (un := un_check_isForm_125_0_0_1) (by rfl) (fun _ => rfl))) (step := sx_check_isForm_125_0_0) rn_check_isForm_125_0_0 (fun _ _ e => ⟨_, e⟩) (altOr_ok (altE_ok 2 x_check_isForm_125_0_0_0 un_check_isForm_125_0_0_0) (altE_ok 1 x_check_isForm_125_0_0_1 un_check_isForm_125_0_0_1)) (VarOk.fail _ _)))⟩
noncomputable abbrev cx_check_isForm_124_0 := cxU sp_check_isForm [lc_check_isForm_47_0, lc_check_isForm_49_0, lc_check_isForm_125_0] 40 1048576
def s_check_isForm_124_0_0 : StS := ⟨[(0, .sl tTh), (1, .clo 90 [] [.ptr 3 0]), (7, .int .i64), (8, .int .i64)], [(3, .box [.clo 85 [] []]), (2, .box [.clo 83 [] []]), (1, .box [.clo 80 [] []]), (0, .box [.sl tGb, .sl tGb, .sl .str, .sl tTh])], 4⟩
def x_check_isForm_124_0_0_0 : StS := ⟨[(4, .undef)], [(3, .box [.clo 85 [] []]), (2, .box [.clo 83 [] []]), (1, .box [.clo 80 [] []]), (0, .box [.sl tGb, .sl tGb, .sl .str, .sl tTh])], 4⟩
def x_check_isForm_124_0_0_1 : StS := ⟨[(4, .int .i64)], [(3, .box [.clo 85 [] []]), (2, .box [.clo 83 [] []]), (1, .box [.clo 80 [] []]), (0, .box [.sl tGb, .sl tGb, .sl .str, .sl tTh])], 4⟩
abbrev X_check_isForm_124_0_0 := ((List Th) × Int × Int × (List Gb) × (List Gb) × (List ByteArray) × (List Th))
def fl_check_isForm_124_0_0 (d : StD s_check_isForm_124_0_0) : X_check_isForm_124_0_0 := (d.1.1, d.1.2.2.1, d.1.2.2.2.1, d.2.2.2.2.1.1, d.2.2.2.2.1.2.1, d.2.2.2.2.1.2.2.1, d.2.2.2.2.1.2.2.2.1)
def un_check_isForm_124_0_0 (x : X_check_isForm_124_0_0) : StD s_check_isForm_124_0_0 := ((x.1, ((), ((), ())), x.2.1, x.2.2.1, ()), ((((), ()), ()), (((), ()), ()), (((), ()), ()), (x.2.2.2.1, x.2.2.2.2.1, x.2.2.2.2.2.1, x.2.2.2.2.2.2, ()), ()))
abbrev X_check_isForm_124_0_0_0 := ((List Gb) × (List Gb) × (List ByteArray) × (List Th))
def fl_check_isForm_124_0_0_0 (d : StD x_check_isForm_124_0_0_0) : X_check_isForm_124_0_0_0 := (d.2.2.2.2.1.1, d.2.2.2.2.1.2.1, d.2.2.2.2.1.2.2.1, d.2.2.2.2.1.2.2.2.1)
def un_check_isForm_124_0_0_0 (x : X_check_isForm_124_0_0_0) : StD x_check_isForm_124_0_0_0 := (((), ()), ((((), ()), ()), (((), ()), ()), (((), ()), ()), (x.1, x.2.1, x.2.2.1, x.2.2.2, ()), ()))
abbrev X_check_isForm_124_0_0_1 := (Int × (List Gb) × (List Gb) × (List ByteArray) × (List Th))
def fl_check_isForm_124_0_0_1 (d : StD x_check_isForm_124_0_0_1) : X_check_isForm_124_0_0_1 := (d.1.1, d.2.2.2.2.1.1, d.2.2.2.2.1.2.1, d.2.2.2.2.1.2.2.1, d.2.2.2.2.1.2.2.2.1)
def un_check_isForm_124_0_0_1 (x : X_check_isForm_124_0_0_1) : StD x_check_isForm_124_0_0_1 := ((x.1, ()), ((((), ()), ()), (((), ()), ()), (((), ()), ()), (x.2.1, x.2.2.1, x.2.2.2.1, x.2.2.2.2, ()), ()))
noncomputable def st_check_isForm_124_0_0 (s0 : (List Th)) (s7 : Int) (s8 : Int) (b0 : (List Gb)) (b0_1 : (List Gb)) (b0_2 : (List ByteArray)) (b0_3 : (List Th)) : Option (((List Th) × Int × Int × (List Gb) × (List Gb) × (List ByteArray) × (List Th)) ⊕ (((List Gb) × (List Gb) × (List ByteArray) × (List Th)) ⊕ (Int × (List Gb) × (List Gb) × (List ByteArray) × (List Th)))) :=
  bif decide (s8 < s7) then
 bif decide (0 ≤ s8) then
 optC s0[s8.toNat]? none fun d12 ↦
 optC (G_check_isName (d12.1, ())) none fun d13 ↦
 bif d13 then
 optC (G_check_areNames (d12.2.1, ())) none fun d14 ↦
 bif d14 then
 optC (L_check_isForm_125_0_0 (d12.2.2, (↑(List.length d12.2.2) : Int), 0, d12.1, d12.2.1, d12.2.2, d12.1, d12.2.1, d12.2.2, b0, b0_1, b0_2, b0_3))
 none fun d15 ↦
 Sum.elim
 (fun e16 ↦
 some
 (Sum.inl
 (s0, s7, Go.IntKind.i64.wrap (s8 + 1), e16.2.2.2.2.2.2.1, e16.2.2.2.2.2.2.2.1, e16.2.2.2.2.2.2.2.2.1,
 e16.2.2.2.2.2.2.2.2.2)))
 (fun e16 ↦
 bif !!decide (e16.1 ≥ 0) then
 some
 (Sum.inr
 (Sum.inr
 (s8, e16.2.2.2.2.2.2.2.1, e16.2.2.2.2.2.2.2.2.1, e16.2.2.2.2.2.2.2.2.2.1,
 e16.2.2.2.2.2.2.2.2.2.2)))
 else
 some
 (Sum.inl
 (s0, s7, Go.IntKind.i64.wrap (s8 + 1), e16.2.2.2.2.2.2.2.1, e16.2.2.2.2.2.2.2.2.1, e16.2.2.2.2.2.2.2.2.2.1,
 e16.2.2.2.2.2.2.2.2.2.2)))
 d15
 else some (Sum.inr (Sum.inr (s8, b0, b0_1, b0_2, b0_3)))
 else some (Sum.inr (Sum.inr (s8, b0, b0_1, b0_2, b0_3)))
 else none
 else some (Sum.inr (Sum.inl (b0, b0_1, b0_2, b0_3)))
noncomputable def sx_check_isForm_124_0_0 (x : X_check_isForm_124_0_0) : Option (X_check_isForm_124_0_0 ⊕ (X_check_isForm_124_0_0_0 ⊕ X_check_isForm_124_0_0_1)) := st_check_isForm_124_0_0 x.1 x.2.1 x.2.2.1 x.2.2.2.1 x.2.2.2.2.1 x.2.2.2.2.2.1 x.2.2.2.2.2.2
theorem rn_check_isForm_124_0_0 (x : X_check_isForm_124_0_0) : rdX cx_check_isForm_124_0 keeps 8 ⟨124, 19, keeps 124, 4⟩ 0 (bodyX 124 0) 4 kp_check_isForm_124_0 (sT s_check_isForm_124_0_0 (un_check_isForm_124_0_0 x)) (sH s_check_isForm_124_0_0 (un_check_isForm_124_0_0 x)) (rdO (fun T h => (rdS s_check_isForm_124_0_0 T h).map fl_check_isForm_124_0_0) (getOr (getE 2 x_check_isForm_124_0_0_0 fl_check_isForm_124_0_0_0) (getE 1 x_check_isForm_124_0_0_1 fl_check_isForm_124_0_0_1))) = sx_check_isForm_124_0_0 x := by kernel_rfl
noncomputable def L_check_isForm_124_0_0 (x : X_check_isForm_124_0_0) : Option (X_check_isForm_124_0_0_0 ⊕ X_check_isForm_124_0_0_1) := iterO (fun x => st_check_isForm_124_0_0 x.1 x.2.1 x.2.2.1 x.2.2.2.1 x.2.2.2.2.1 x.2.2.2.2.2.1 x.2.2.2.2.2.2) FUEL x
noncomputable def q_check_isForm_124_0 : Nat → Tm → Prog (Nat × Tm) := (varP 4 (fun T h => (rdS s_check_isForm_124_0_0 T h).map fl_check_isForm_124_0_0) L_check_isForm_124_0_0 (fun y => .alt y (altE 2 x_check_isForm_124_0_0_0 un_check_isForm_124_0_0_0) (altE 1 x_check_isForm_124_0_0_1 un_check_isForm_124_0_0_1)) (fun _ _ => .fail))
noncomputable def lc_check_isForm_124_0 : Lpc := ⟨124, 0, 19, (fun base T => .norm base (kp_check_isForm_124_0 0) T (q_check_isForm_124_0 base)), by kernel_rfl, by kernel_rfl, (loopU sp_check_isForm [lc_check_isForm_47_0, lc_check_isForm_49_0, lc_check_isForm_125_0] 40 1048576 8 (keep := kp_check_isForm_124_0) (q := q_check_isForm_124_0) (by kernel_rfl) (varX_ok (s := s_check_isForm_124_0_0) (un := un_check_isForm_124_0_0) (by rfl) (fun _ => rfl) (getOr_ok (getE_ok (s := x_check_isForm_124_0_0_0) (un := un_check_isForm_124_0_0_0) (by rfl) (fun _ => rfl)) (getE_ok (s := x_check_isForm_124_0_0_1) (un := un_check_isForm_124_0_0_1) (by rfl) (fun _ => rfl))) (step := sx_check_isForm_124_0_0) rn_check_isForm_124_0_0 (fun _ _ e => ⟨_, e⟩) (altOr_ok (altE_ok 2 x_check_isForm_124_0_0_0 un_check_isForm_124_0_0_0) (altE_ok 1 x_check_isForm_124_0_0_1 un_check_isForm_124_0_0_1)) (VarOk.fail _ _)))⟩
noncomputable def g_check_isForm (a0 : Pg) : Option Bool :=
  bif decide ((↑(List.length a0.2.2.2) : Int) > 0) then
 optC (G_check_areNames (a0.2.2.1, ())) none fun d6 ↦
 bif d6 then
 optC (L_check_isForm_47_0_0 (a0.1, (↑(List.length a0.1) : Int), 0, a0)) none fun d7 ↦
 Sum.elim
 (fun e8 ↦
 optC (L_check_isForm_49_0_0 (e8.2.1, (↑e8.2.1.length : Int), 0, e8)) none fun d9 ↦
 Sum.elim
 (fun e10 ↦
 optC (L_check_isForm_124_0_0 (e10.2.2.2, (↑e10.2.2.2.length : Int), 0, e10)) none fun d11 ↦
 Sum.elim (fun e12 ↦ some !decide (-1 ≥ 0)) (fun e12 ↦ some !decide (e12.1 ≥ 0)) d11)
 (fun e10 ↦
 bif !decide (e10.1 ≥ 0) then
 optC (L_check_isForm_124_0_0 (e10.2.2.2.2, (↑e10.2.2.2.2.length : Int), 0, e10.2)) none fun d11 ↦
 Sum.elim (fun e12 ↦ some !decide (-1 ≥ 0)) (fun e12 ↦ some !decide (e12.1 ≥ 0)) d11
 else some false)
 d9)
 (fun e8 ↦
 bif !decide (e8.1 ≥ 0) then
 optC (L_check_isForm_49_0_0 (e8.2.2.1, (↑e8.2.2.1.length : Int), 0, e8.2)) none fun d9 ↦
 Sum.elim
 (fun e10 ↦
 optC (L_check_isForm_124_0_0 (e10.2.2.2, (↑e10.2.2.2.length : Int), 0, e10)) none fun d11 ↦
 Sum.elim (fun e12 ↦ some !decide (-1 ≥ 0)) (fun e12 ↦ some !decide (e12.1 ≥ 0)) d11)
 (fun e10 ↦
 bif !decide (e10.1 ≥ 0) then
 optC (L_check_isForm_124_0_0 (e10.2.2.2.2, (↑e10.2.2.2.2.length : Int), 0, e10.2)) none fun d11 ↦
 Sum.elim (fun e12 ↦ some !decide (-1 ≥ 0)) (fun e12 ↦ some !decide (e12.1 ≥ 0)) d11
 else some false)
 d9
 else some false)
 d7
 else some false
 else some false
theorem raw_check_isForm (a0 : Pg) : evGX (cxU sp_check_isForm [lc_check_isForm_47_0, lc_check_isForm_49_0, lc_check_isForm_125_0, lc_check_isForm_124_0] 40 1048576) keeps 8 38 ash_check_isForm (.dat .bool) ((a0, ()) : (Pg × Unit)) = g_check_isForm a0 := by kernel_rfl
noncomputable def G_check_isForm (x : (Pg × Unit)) : Option Bool := g_check_isForm x.1
noncomputable def con_check_isForm : List AV → Prog AV := conP false ash_check_isForm (.dat .bool) G_check_isForm
theorem snd_check_isForm : SoundA Tryz.prog 38 con_check_isForm := conP_sound (calU sp_check_isForm [lc_check_isForm_47_0, lc_check_isForm_49_0, lc_check_isForm_125_0, lc_check_isForm_124_0] 40 1048576 8 38) false (by rfl) (by rfl) (fun x r e => (evGX_eq _ _ _ _ _ _ _).trans ((raw_check_isForm x.1).trans e)) (.inr fun _ => rfl)
end Go.Proofs.YtmjbedjnojcmfaaGreatDoor.Ex

namespace Go.Proofs.YtmjbedjnojcmfaaGreatDoor.Ex
open Go.Proofs Go.Proofs.YtmjbedjnojcmfaaGreatDoor
noncomputable def cx_slices_Clone_string : Ctx := { tab := tab, spec := fun _ => none, inl := inl, lps := fun _ _ => none, fuel := 40 }
noncomputable def con_slices_Clone_string : List AV → Prog AV := cloneP 16 .str
theorem snd_slices_Clone_string : SoundA Tryz.prog 88 con_slices_Clone_string :=
  clone_sound (cx := cx_slices_Clone_string) (cal := fun _ _ => .fail) (i := ⟨(.sl .str), 24, 9, [], false⟩) (ie := ⟨.str, 16, 0, [], false⟩) (tabOk_of tab_ok) Tryz.func88 (inl_ok 88 Tryz.f88 rfl).2 (t := 24) (tb := 4) (s0 := "slices.go:355") (s1 := "slices.go:357") (s2 := "slices.go:358") (s3 := "slices.go:362") (by kernel_rfl) (by kernel_rfl) (by kernel_rfl) rfl rfl rfl rfl
end Go.Proofs.YtmjbedjnojcmfaaGreatDoor.Ex

namespace Go.Proofs.YtmjbedjnojcmfaaGreatDoor.Ex
open Go.Proofs Go.Proofs.YtmjbedjnojcmfaaGreatDoor
set_option maxRecDepth 100000
set_option maxHeartbeats 2000000
set_option linter.unusedVariables false
set_option linter.unusedSimpArgs false
def ash_slices_Index_string : List Sh := [.dat (.sl .str), .dat .str]
def kp_slices_Index_string_76_0 : Nat → List Nat := fun c => bif c.beq 0 then [0, 1, 7, 8] else [4]
noncomputable def sp_slices_Index_string : List Con := []
def s_slices_Index_string_76_0_0 : StS := ⟨[(0, .sl .str), (1, .str), (7, .int .i64), (8, .int .i64)], [], 0⟩
def x_slices_Index_string_76_0_0_0 : StS := ⟨[(4, .undef)], [], 0⟩
def x_slices_Index_string_76_0_0_1 : StS := ⟨[(4, .int .i64)], [], 0⟩
abbrev X_slices_Index_string_76_0_0 := ((List ByteArray) × ByteArray × Int × Int)
def fl_slices_Index_string_76_0_0 (d : StD s_slices_Index_string_76_0_0) : X_slices_Index_string_76_0_0 := (d.1.1, d.1.2.1, d.1.2.2.1, d.1.2.2.2.1)
def un_slices_Index_string_76_0_0 (x : X_slices_Index_string_76_0_0) : StD s_slices_Index_string_76_0_0 := ((x.1, x.2.1, x.2.2.1, x.2.2.2, ()), ())
abbrev X_slices_Index_string_76_0_0_0 := Unit
def fl_slices_Index_string_76_0_0_0 (d : StD x_slices_Index_string_76_0_0_0) : X_slices_Index_string_76_0_0_0 := ()
def un_slices_Index_string_76_0_0_0 (x : X_slices_Index_string_76_0_0_0) : StD x_slices_Index_string_76_0_0_0 := (((), ()), ())
abbrev X_slices_Index_string_76_0_0_1 := Int
def fl_slices_Index_string_76_0_0_1 (d : StD x_slices_Index_string_76_0_0_1) : X_slices_Index_string_76_0_0_1 := (d.1.1)
def un_slices_Index_string_76_0_0_1 (x : X_slices_Index_string_76_0_0_1) : StD x_slices_Index_string_76_0_0_1 := ((x, ()), ())
noncomputable def st_slices_Index_string_76_0_0 (s0 : (List ByteArray)) (s1 : ByteArray) (s7 : Int) (s8 : Int) : Option (((List ByteArray) × ByteArray × Int × Int) ⊕ (Unit ⊕ Int)) :=
  bif decide (s8 < s7) then
 bif decide (0 ≤ s8) then
 optC s0[s8.toNat]? none fun d6 ↦ bif s1.toList == ByteArray.toList d6 then some (Sum.inr (Sum.inr s8)) else some (Sum.inl (s0, s1, s7, Go.IntKind.i64.wrap (s8 + 1)))
 else none
 else some (Sum.inr (Sum.inl PUnit.unit))
noncomputable def sx_slices_Index_string_76_0_0 (x : X_slices_Index_string_76_0_0) : Option (X_slices_Index_string_76_0_0 ⊕ (X_slices_Index_string_76_0_0_0 ⊕ X_slices_Index_string_76_0_0_1)) := st_slices_Index_string_76_0_0 x.1 x.2.1 x.2.2.1 x.2.2.2
theorem rn_slices_Index_string_76_0_0 (x : X_slices_Index_string_76_0_0) : rdX (cxU sp_slices_Index_string [] 40 1048576) keeps 8 ⟨76, 19, keeps 76, 0⟩ 0 (bodyX 76 0) 0 kp_slices_Index_string_76_0 (sT s_slices_Index_string_76_0_0 (un_slices_Index_string_76_0_0 x)) (sH s_slices_Index_string_76_0_0 (un_slices_Index_string_76_0_0 x)) (rdO (fun T h => (rdS s_slices_Index_string_76_0_0 T h).map fl_slices_Index_string_76_0_0) (getOr (getE 2 x_slices_Index_string_76_0_0_0 fl_slices_Index_string_76_0_0_0) (getE 1 x_slices_Index_string_76_0_0_1 fl_slices_Index_string_76_0_0_1))) = sx_slices_Index_string_76_0_0 x := by kernel_rfl
noncomputable def L_slices_Index_string_76_0_0 (x : X_slices_Index_string_76_0_0) : Option (X_slices_Index_string_76_0_0_0 ⊕ X_slices_Index_string_76_0_0_1) := iterO (fun x => st_slices_Index_string_76_0_0 x.1 x.2.1 x.2.2.1 x.2.2.2) FUEL x
noncomputable def q_slices_Index_string_76_0 : Nat → Tm → Prog (Nat × Tm) := (varP 0 (fun T h => (rdS s_slices_Index_string_76_0_0 T h).map fl_slices_Index_string_76_0_0) L_slices_Index_string_76_0_0 (fun y => .alt y (altE 2 x_slices_Index_string_76_0_0_0 un_slices_Index_string_76_0_0_0) (altE 1 x_slices_Index_string_76_0_0_1 un_slices_Index_string_76_0_0_1)) (fun _ _ => .fail))
noncomputable def lc_slices_Index_string_76_0 : Lpc := ⟨76, 0, 19, (fun base T => .norm base (kp_slices_Index_string_76_0 0) T (q_slices_Index_string_76_0 base)), by kernel_rfl, by kernel_rfl, (loopU sp_slices_Index_string [] 40 1048576 8 (keep := kp_slices_Index_string_76_0) (q := q_slices_Index_string_76_0) (by kernel_rfl) (varX_ok (s := s_slices_Index_string_76_0_0) (un := un_slices_Index_string_76_0_0) (by rfl) (fun _ => rfl) (getOr_ok (getE_ok (s := x_slices_Index_string_76_0_0_0) (un := un_slices_Index_string_76_0_0_0) (by rfl) (fun _ => rfl)) (getE_ok (s := x_slices_Index_string_76_0_0_1) (un := un_slices_Index_string_76_0_0_1) (by rfl) (fun _ => rfl))) (step := sx_slices_Index_string_76_0_0) rn_slices_Index_string_76_0_0 (fun _ _ e => ⟨_, e⟩) (altOr_ok (altE_ok 2 x_slices_Index_string_76_0_0_0 un_slices_Index_string_76_0_0_0) (altE_ok 1 x_slices_Index_string_76_0_0_1 un_slices_Index_string_76_0_0_1)) (VarOk.fail _ _)))⟩
noncomputable def g_slices_Index_string (a0 : (List ByteArray)) (a1 : ByteArray) : Option Int :=
  optC (L_slices_Index_string_76_0_0 (a0, a1, (↑a0.length : Int), 0)) none fun d4 ↦ Sum.elim (fun e5 ↦ some (-1)) (fun e5 ↦ some e5) d4
theorem raw_slices_Index_string (a0 : (List ByteArray)) (a1 : ByteArray) : evGX (cxU sp_slices_Index_string [lc_slices_Index_string_76_0] 40 1048576) keeps 8 76 ash_slices_Index_string (.dat (.int .i64)) ((a0, a1, ()) : ((List ByteArray) × (ByteArray × Unit))) = g_slices_Index_string a0 a1 := by kernel_rfl
noncomputable def G_slices_Index_string (x : ((List ByteArray) × (ByteArray × Unit))) : Option Int := g_slices_Index_string x.1 x.2.1
noncomputable def con_slices_Index_string : List AV → Prog AV := conP true ash_slices_Index_string (.dat (.int .i64)) G_slices_Index_string
theorem snd_slices_Index_string : SoundA Tryz.prog 76 con_slices_Index_string := conP_sound (calU sp_slices_Index_string [lc_slices_Index_string_76_0] 40 1048576 8 76) true (by rfl) (by rfl) (fun x r e => (evGX_eq _ _ _ _ _ _ _).trans ((raw_slices_Index_string x.1 x.2.1).trans e)) (.inl rfl)
end Go.Proofs.YtmjbedjnojcmfaaGreatDoor.Ex

namespace Go.Proofs.YtmjbedjnojcmfaaGreatDoor.Ex
open Go.Proofs Go.Proofs.YtmjbedjnojcmfaaGreatDoor
set_option maxRecDepth 100000
set_option maxHeartbeats 2000000
set_option linter.unusedVariables false
set_option linter.unusedSimpArgs false
def ash_check_place : List Sh := [.dat .str, .dat (.sl .str)]
noncomputable def sp_check_place : List Con := [⟨76, con_slices_Index_string, snd_slices_Index_string⟩]
noncomputable def g_check_place (a0 : ByteArray) (a1 : (List ByteArray)) : Option Int :=
  optC (G_slices_Index_string (a1, a0, ())) none fun d3 ↦ some d3
theorem raw_check_place (a0 : ByteArray) (a1 : (List ByteArray)) : evGX (cxU sp_check_place [] 40 1048576) keeps 8 35 ash_check_place (.dat (.int .i64)) ((a0, a1, ()) : (ByteArray × ((List ByteArray) × Unit))) = g_check_place a0 a1 := by kernel_rfl
noncomputable def G_check_place (x : (ByteArray × ((List ByteArray) × Unit))) : Option Int := g_check_place x.1 x.2.1
noncomputable def con_check_place : List AV → Prog AV := conP false ash_check_place (.dat (.int .i64)) G_check_place
theorem snd_check_place : SoundA Tryz.prog 35 con_check_place := conP_sound (calU sp_check_place [] 40 1048576 8 35) false (by rfl) (by rfl) (fun x r e => (evGX_eq _ _ _ _ _ _ _).trans ((raw_check_place x.1 x.2.1).trans e)) (.inr fun _ => rfl)
end Go.Proofs.YtmjbedjnojcmfaaGreatDoor.Ex

namespace Go.Proofs.YtmjbedjnojcmfaaGreatDoor.Ex
open Go.Proofs Go.Proofs.YtmjbedjnojcmfaaGreatDoor
set_option maxRecDepth 100000
set_option maxHeartbeats 2000000
set_option linter.unusedVariables false
set_option linter.unusedSimpArgs false
def ash_check_isTwice : List Sh := [.dat (.sl .str)]
def kp_check_isTwice_87_0 : Nat → List Nat := fun c => bif c.beq 0 then [0, 5, 6, 7] else [2]
noncomputable def sp_check_isTwice : List Con := [⟨35, con_check_place, snd_check_place⟩]
def s_check_isTwice_87_0_0 : StS := ⟨[(0, .sl .str), (5, .sl .str), (6, .int .i64), (7, .int .i64)], [], 0⟩
def x_check_isTwice_87_0_0_0 : StS := ⟨[(2, .undef)], [], 0⟩
def x_check_isTwice_87_0_0_1 : StS := ⟨[(2, .bool)], [], 0⟩
abbrev X_check_isTwice_87_0_0 := ((List ByteArray) × (List ByteArray) × Int × Int)
def fl_check_isTwice_87_0_0 (d : StD s_check_isTwice_87_0_0) : X_check_isTwice_87_0_0 := (d.1.1, d.1.2.1, d.1.2.2.1, d.1.2.2.2.1)
def un_check_isTwice_87_0_0 (x : X_check_isTwice_87_0_0) : StD s_check_isTwice_87_0_0 := ((x.1, x.2.1, x.2.2.1, x.2.2.2, ()), ())
abbrev X_check_isTwice_87_0_0_0 := Unit
def fl_check_isTwice_87_0_0_0 (d : StD x_check_isTwice_87_0_0_0) : X_check_isTwice_87_0_0_0 := ()
def un_check_isTwice_87_0_0_0 (x : X_check_isTwice_87_0_0_0) : StD x_check_isTwice_87_0_0_0 := (((), ()), ())
abbrev X_check_isTwice_87_0_0_1 := Bool
def fl_check_isTwice_87_0_0_1 (d : StD x_check_isTwice_87_0_0_1) : X_check_isTwice_87_0_0_1 := (d.1.1)
def un_check_isTwice_87_0_0_1 (x : X_check_isTwice_87_0_0_1) : StD x_check_isTwice_87_0_0_1 := ((x, ()), ())
noncomputable def st_check_isTwice_87_0_0 (s0 : (List ByteArray)) (s5 : (List ByteArray)) (s6 : Int) (s7 : Int) : Option (((List ByteArray) × (List ByteArray) × Int × Int) ⊕ (Unit ⊕ Bool)) :=
  bif decide (s7 < s6) then
 bif decide (0 ≤ s7) then
 optC s5[s7.toNat]? none fun d6 ↦
 bif decide ((0 : Int) ≤ 0 ∧ 0 ≤ s7 ∧ s7 ≤ (↑s0.length : Int)) then
 optC (G_check_place (d6, List.drop (Int.toNat (0 : Int)) (List.take s7.toNat s0), ())) none fun d7 ↦
 bif decide (d7 ≥ 0) then some (Sum.inr (Sum.inr true)) else some (Sum.inl (s0, s5, s6, Go.IntKind.i64.wrap (s7 + 1)))
 else none
 else none
 else some (Sum.inr (Sum.inl PUnit.unit))
noncomputable def sx_check_isTwice_87_0_0 (x : X_check_isTwice_87_0_0) : Option (X_check_isTwice_87_0_0 ⊕ (X_check_isTwice_87_0_0_0 ⊕ X_check_isTwice_87_0_0_1)) := st_check_isTwice_87_0_0 x.1 x.2.1 x.2.2.1 x.2.2.2
theorem rn_check_isTwice_87_0_0 (x : X_check_isTwice_87_0_0) : rdX (cxU sp_check_isTwice [] 40 1048576) keeps 8 ⟨87, 19, keeps 87, 0⟩ 0 (bodyX 87 0) 0 kp_check_isTwice_87_0 (sT s_check_isTwice_87_0_0 (un_check_isTwice_87_0_0 x)) (sH s_check_isTwice_87_0_0 (un_check_isTwice_87_0_0 x)) (rdO (fun T h => (rdS s_check_isTwice_87_0_0 T h).map fl_check_isTwice_87_0_0) (getOr (getE 2 x_check_isTwice_87_0_0_0 fl_check_isTwice_87_0_0_0) (getE 1 x_check_isTwice_87_0_0_1 fl_check_isTwice_87_0_0_1))) = sx_check_isTwice_87_0_0 x := by kernel_rfl
noncomputable def L_check_isTwice_87_0_0 (x : X_check_isTwice_87_0_0) : Option (X_check_isTwice_87_0_0_0 ⊕ X_check_isTwice_87_0_0_1) := iterO (fun x => st_check_isTwice_87_0_0 x.1 x.2.1 x.2.2.1 x.2.2.2) FUEL x
noncomputable def q_check_isTwice_87_0 : Nat → Tm → Prog (Nat × Tm) := (varP 0 (fun T h => (rdS s_check_isTwice_87_0_0 T h).map fl_check_isTwice_87_0_0) L_check_isTwice_87_0_0 (fun y => .alt y (altE 2 x_check_isTwice_87_0_0_0 un_check_isTwice_87_0_0_0) (altE 1 x_check_isTwice_87_0_0_1 un_check_isTwice_87_0_0_1)) (fun _ _ => .fail))
noncomputable def lc_check_isTwice_87_0 : Lpc := ⟨87, 0, 19, (fun base T => .norm base (kp_check_isTwice_87_0 0) T (q_check_isTwice_87_0 base)), by kernel_rfl, by kernel_rfl, (loopU sp_check_isTwice [] 40 1048576 8 (keep := kp_check_isTwice_87_0) (q := q_check_isTwice_87_0) (by kernel_rfl) (varX_ok (s := s_check_isTwice_87_0_0) (un := un_check_isTwice_87_0_0) (by rfl) (fun _ => rfl) (getOr_ok (getE_ok (s := x_check_isTwice_87_0_0_0) (un := un_check_isTwice_87_0_0_0) (by rfl) (fun _ => rfl)) (getE_ok (s := x_check_isTwice_87_0_0_1) (un := un_check_isTwice_87_0_0_1) (by rfl) (fun _ => rfl))) (step := sx_check_isTwice_87_0_0) rn_check_isTwice_87_0_0 (fun _ _ e => ⟨_, e⟩) (altOr_ok (altE_ok 2 x_check_isTwice_87_0_0_0 un_check_isTwice_87_0_0_0) (altE_ok 1 x_check_isTwice_87_0_0_1 un_check_isTwice_87_0_0_1)) (VarOk.fail _ _)))⟩
noncomputable def g_check_isTwice (a0 : (List ByteArray)) : Option Bool :=
  optC (L_check_isTwice_87_0_0 (a0, a0, (↑a0.length : Int), 0)) none fun d3 ↦ Sum.elim (fun e4 ↦ some false) (fun e4 ↦ some e4) d3
theorem raw_check_isTwice (a0 : (List ByteArray)) : evGX (cxU sp_check_isTwice [lc_check_isTwice_87_0] 40 1048576) keeps 8 87 ash_check_isTwice (.dat .bool) ((a0, ()) : ((List ByteArray) × Unit)) = g_check_isTwice a0 := by kernel_rfl
noncomputable def G_check_isTwice (x : ((List ByteArray) × Unit)) : Option Bool := g_check_isTwice x.1
noncomputable def con_check_isTwice : List AV → Prog AV := conP false ash_check_isTwice (.dat .bool) G_check_isTwice
theorem snd_check_isTwice : SoundA Tryz.prog 87 con_check_isTwice := conP_sound (calU sp_check_isTwice [lc_check_isTwice_87_0] 40 1048576 8 87) false (by rfl) (by rfl) (fun x r e => (evGX_eq _ _ _ _ _ _ _).trans ((raw_check_isTwice x.1).trans e)) (.inr fun _ => rfl)
end Go.Proofs.YtmjbedjnojcmfaaGreatDoor.Ex

namespace Go.Proofs.YtmjbedjnojcmfaaGreatDoor.Ex
open Go.Proofs Go.Proofs.YtmjbedjnojcmfaaGreatDoor
set_option maxRecDepth 100000
set_option maxHeartbeats 2000000
set_option linter.unusedVariables false
set_option linter.unusedSimpArgs false
def ash_check_isAlone : List Sh := [.dat tPg]
def kp_check_isAlone_39_0 : Nat → List Nat := fun c => bif c.beq 0 then [1, 3, 4, 12, 13, 14] else [1, 3, 4]
def kp_check_isAlone_39_2 : Nat → List Nat := fun c => bif c.beq 0 then [1, 3, 4, 25, 26, 27] else [1, 3, 4]
def kp_check_isAlone_39_4 : Nat → List Nat := fun c => bif c.beq 0 then [3, 4, 42, 43, 44] else [2, 4]
noncomputable def sp_check_isAlone : List Con := [⟨88, con_slices_Clone_string, snd_slices_Clone_string⟩, ⟨87, con_check_isTwice, snd_check_isTwice⟩]
def s_check_isAlone_39_0_0 : StS := ⟨[(1, .ptr 0 0), (3, .row 1), (4, .nil), (12, .sl tGb), (13, .int .i64), (14, .int .i64)], [(0, .box [.sl tGb, .sl tGb, .sl .str, .sl tTh]), (1, .row .str)], 2⟩
def x_check_isAlone_39_0_0_0 : StS := ⟨[(1, .ptr 0 0), (3, .row 1), (4, .nil)], [(0, .box [.sl tGb, .sl tGb, .sl .str, .sl tTh]), (1, .row .str)], 2⟩
abbrev X_check_isAlone_39_0_0 := ((List Gb) × Int × Int × (List Gb) × (List Gb) × (List ByteArray) × (List Th) × (List ByteArray))
def fl_check_isAlone_39_0_0 (d : StD s_check_isAlone_39_0_0) : X_check_isAlone_39_0_0 := (d.1.2.2.2.1, d.1.2.2.2.2.1, d.1.2.2.2.2.2.1, d.2.1.1, d.2.1.2.1, d.2.1.2.2.1, d.2.1.2.2.2.1, d.2.2.1)
def un_check_isAlone_39_0_0 (x : X_check_isAlone_39_0_0) : StD s_check_isAlone_39_0_0 := (((), (), (), x.1, x.2.1, x.2.2.1, ()), ((x.2.2.2.1, x.2.2.2.2.1, x.2.2.2.2.2.1, x.2.2.2.2.2.2.1, ()), x.2.2.2.2.2.2.2, ()))
abbrev X_check_isAlone_39_0_0_0 := ((List Gb) × (List Gb) × (List ByteArray) × (List Th) × (List ByteArray))
def fl_check_isAlone_39_0_0_0 (d : StD x_check_isAlone_39_0_0_0) : X_check_isAlone_39_0_0_0 := (d.2.1.1, d.2.1.2.1, d.2.1.2.2.1, d.2.1.2.2.2.1, d.2.2.1)
def un_check_isAlone_39_0_0_0 (x : X_check_isAlone_39_0_0_0) : StD x_check_isAlone_39_0_0_0 := (((), (), (), ()), ((x.1, x.2.1, x.2.2.1, x.2.2.2.1, ()), x.2.2.2.2, ()))
noncomputable def st_check_isAlone_39_0_0 (s12 : (List Gb)) (s13 : Int) (s14 : Int) (b0 : (List Gb)) (b0_1 : (List Gb)) (b0_2 : (List ByteArray)) (b0_3 : (List Th)) (b1 : (List ByteArray)) : Option (((List Gb) × Int × Int × (List Gb) × (List Gb) × (List ByteArray) × (List Th) × (List ByteArray)) ⊕ ((List Gb) × (List Gb) × (List ByteArray) × (List Th) × (List ByteArray))) :=
  bif decide (s14 < s13) then
 bif decide (0 ≤ s14) then
 optC s12[s14.toNat]? none fun d12 ↦
 bif decide ((b1.length + [d12.1].length + 1) * 16 ≤ lim) then some (Sum.inl (s12, s13, Go.IntKind.i64.wrap (s14 + 1), b0, b0_1, b0_2, b0_3, b1 ++ [d12.1]))
 else none
 else none
 else some (Sum.inr (b0, b0_1, b0_2, b0_3, b1))
noncomputable def sx_check_isAlone_39_0_0 (x : X_check_isAlone_39_0_0) : Option (X_check_isAlone_39_0_0 ⊕ X_check_isAlone_39_0_0_0) := st_check_isAlone_39_0_0 x.1 x.2.1 x.2.2.1 x.2.2.2.1 x.2.2.2.2.1 x.2.2.2.2.2.1 x.2.2.2.2.2.2.1 x.2.2.2.2.2.2.2
theorem rn_check_isAlone_39_0_0 (x : X_check_isAlone_39_0_0) : rdX (cxU sp_check_isAlone [] 40 1048576) keeps 8 ⟨39, 63, keeps 39, 0⟩ 0 (bodyX 39 0) 0 kp_check_isAlone_39_0 (sT s_check_isAlone_39_0_0 (un_check_isAlone_39_0_0 x)) (sH s_check_isAlone_39_0_0 (un_check_isAlone_39_0_0 x)) (rdO (fun T h => (rdS s_check_isAlone_39_0_0 T h).map fl_check_isAlone_39_0_0) (getE 2 x_check_isAlone_39_0_0_0 fl_check_isAlone_39_0_0_0)) = sx_check_isAlone_39_0_0 x := by kernel_rfl
noncomputable def L_check_isAlone_39_0_0 (x : X_check_isAlone_39_0_0) : Option X_check_isAlone_39_0_0_0 := iterO (fun x => st_check_isAlone_39_0_0 x.1 x.2.1 x.2.2.1 x.2.2.2.1 x.2.2.2.2.1 x.2.2.2.2.2.1 x.2.2.2.2.2.2.1 x.2.2.2.2.2.2.2) FUEL x
noncomputable def q_check_isAlone_39_0 : Nat → Tm → Prog (Nat × Tm) := (varP 0 (fun T h => (rdS s_check_isAlone_39_0_0 T h).map fl_check_isAlone_39_0_0) L_check_isAlone_39_0_0 (altE 2 x_check_isAlone_39_0_0_0 un_check_isAlone_39_0_0_0) (fun _ _ => .fail))
noncomputable def lc_check_isAlone_39_0 : Lpc := ⟨39, 0, 63, (ownP [] [(3, .str)] (kp_check_isAlone_39_0 0) (fun base T => .norm base (kp_check_isAlone_39_0 0) T (q_check_isAlone_39_0 base))), by kernel_rfl, by kernel_rfl, (own_sound (loopU sp_check_isAlone [] 40 1048576 8 (keep := kp_check_isAlone_39_0) (q := q_check_isAlone_39_0) (by kernel_rfl) (varX_ok (s := s_check_isAlone_39_0_0) (un := un_check_isAlone_39_0_0) (by rfl) (fun _ => rfl) (getE_ok (s := x_check_isAlone_39_0_0_0) (un := un_check_isAlone_39_0_0_0) (by rfl) (fun _ => rfl)) (step := sx_check_isAlone_39_0_0) rn_check_isAlone_39_0_0 (fun _ _ e => ⟨_, e⟩) (altE_ok 2 x_check_isAlone_39_0_0_0 un_check_isAlone_39_0_0_0) (VarOk.fail _ _))))⟩
noncomputable abbrev cx_check_isAlone_39_2 := cxU sp_check_isAlone [lc_check_isAlone_39_0] 40 1048576
def s_check_isAlone_39_2_0 : StS := ⟨[(1, .ptr 0 0), (3, .row 1), (4, .nil), (25, .sl tGb), (26, .int .i64), (27, .int .i64)], [(0, .box [.sl tGb, .sl tGb, .sl .str, .sl tTh]), (1, .row .str)], 2⟩
def x_check_isAlone_39_2_0_0 : StS := ⟨[(1, .ptr 0 0), (3, .row 1), (4, .nil)], [(0, .box [.sl tGb, .sl tGb, .sl .str, .sl tTh]), (1, .row .str)], 2⟩
abbrev X_check_isAlone_39_2_0 := ((List Gb) × Int × Int × (List Gb) × (List Gb) × (List ByteArray) × (List Th) × (List ByteArray))
def fl_check_isAlone_39_2_0 (d : StD s_check_isAlone_39_2_0) : X_check_isAlone_39_2_0 := (d.1.2.2.2.1, d.1.2.2.2.2.1, d.1.2.2.2.2.2.1, d.2.1.1, d.2.1.2.1, d.2.1.2.2.1, d.2.1.2.2.2.1, d.2.2.1)
def un_check_isAlone_39_2_0 (x : X_check_isAlone_39_2_0) : StD s_check_isAlone_39_2_0 := (((), (), (), x.1, x.2.1, x.2.2.1, ()), ((x.2.2.2.1, x.2.2.2.2.1, x.2.2.2.2.2.1, x.2.2.2.2.2.2.1, ()), x.2.2.2.2.2.2.2, ()))
abbrev X_check_isAlone_39_2_0_0 := ((List Gb) × (List Gb) × (List ByteArray) × (List Th) × (List ByteArray))
def fl_check_isAlone_39_2_0_0 (d : StD x_check_isAlone_39_2_0_0) : X_check_isAlone_39_2_0_0 := (d.2.1.1, d.2.1.2.1, d.2.1.2.2.1, d.2.1.2.2.2.1, d.2.2.1)
def un_check_isAlone_39_2_0_0 (x : X_check_isAlone_39_2_0_0) : StD x_check_isAlone_39_2_0_0 := (((), (), (), ()), ((x.1, x.2.1, x.2.2.1, x.2.2.2.1, ()), x.2.2.2.2, ()))
noncomputable def st_check_isAlone_39_2_0 (s25 : (List Gb)) (s26 : Int) (s27 : Int) (b0 : (List Gb)) (b0_1 : (List Gb)) (b0_2 : (List ByteArray)) (b0_3 : (List Th)) (b1 : (List ByteArray)) : Option (((List Gb) × Int × Int × (List Gb) × (List Gb) × (List ByteArray) × (List Th) × (List ByteArray)) ⊕ ((List Gb) × (List Gb) × (List ByteArray) × (List Th) × (List ByteArray))) :=
  bif decide (s27 < s26) then
 bif decide (0 ≤ s27) then
 optC s25[s27.toNat]? none fun d12 ↦
 bif decide ((b1.length + [d12.1].length + 1) * 16 ≤ lim) then some (Sum.inl (s25, s26, Go.IntKind.i64.wrap (s27 + 1), b0, b0_1, b0_2, b0_3, b1 ++ [d12.1]))
 else none
 else none
 else some (Sum.inr (b0, b0_1, b0_2, b0_3, b1))
noncomputable def sx_check_isAlone_39_2_0 (x : X_check_isAlone_39_2_0) : Option (X_check_isAlone_39_2_0 ⊕ X_check_isAlone_39_2_0_0) := st_check_isAlone_39_2_0 x.1 x.2.1 x.2.2.1 x.2.2.2.1 x.2.2.2.2.1 x.2.2.2.2.2.1 x.2.2.2.2.2.2.1 x.2.2.2.2.2.2.2
theorem rn_check_isAlone_39_2_0 (x : X_check_isAlone_39_2_0) : rdX cx_check_isAlone_39_2 keeps 8 ⟨39, 63, keeps 39, 0⟩ 2 (bodyX 39 2) 0 kp_check_isAlone_39_2 (sT s_check_isAlone_39_2_0 (un_check_isAlone_39_2_0 x)) (sH s_check_isAlone_39_2_0 (un_check_isAlone_39_2_0 x)) (rdO (fun T h => (rdS s_check_isAlone_39_2_0 T h).map fl_check_isAlone_39_2_0) (getE 4 x_check_isAlone_39_2_0_0 fl_check_isAlone_39_2_0_0)) = sx_check_isAlone_39_2_0 x := by kernel_rfl
noncomputable def L_check_isAlone_39_2_0 (x : X_check_isAlone_39_2_0) : Option X_check_isAlone_39_2_0_0 := iterO (fun x => st_check_isAlone_39_2_0 x.1 x.2.1 x.2.2.1 x.2.2.2.1 x.2.2.2.2.1 x.2.2.2.2.2.1 x.2.2.2.2.2.2.1 x.2.2.2.2.2.2.2) FUEL x
noncomputable def q_check_isAlone_39_2 : Nat → Tm → Prog (Nat × Tm) := (varP 0 (fun T h => (rdS s_check_isAlone_39_2_0 T h).map fl_check_isAlone_39_2_0) L_check_isAlone_39_2_0 (altE 4 x_check_isAlone_39_2_0_0 un_check_isAlone_39_2_0_0) (fun _ _ => .fail))
noncomputable def lc_check_isAlone_39_2 : Lpc := ⟨39, 2, 63, (fun base T => .norm base (kp_check_isAlone_39_2 0) T (q_check_isAlone_39_2 base)), by kernel_rfl, by kernel_rfl, (loopU sp_check_isAlone [lc_check_isAlone_39_0] 40 1048576 8 (keep := kp_check_isAlone_39_2) (q := q_check_isAlone_39_2) (by kernel_rfl) (varX_ok (s := s_check_isAlone_39_2_0) (un := un_check_isAlone_39_2_0) (by rfl) (fun _ => rfl) (getE_ok (s := x_check_isAlone_39_2_0_0) (un := un_check_isAlone_39_2_0_0) (by rfl) (fun _ => rfl)) (step := sx_check_isAlone_39_2_0) rn_check_isAlone_39_2_0 (fun _ _ e => ⟨_, e⟩) (altE_ok 4 x_check_isAlone_39_2_0_0 un_check_isAlone_39_2_0_0) (VarOk.fail _ _)))⟩
noncomputable abbrev cx_check_isAlone_39_4 := cxU sp_check_isAlone [lc_check_isAlone_39_0, lc_check_isAlone_39_2] 40 1048576
def s_check_isAlone_39_4_0 : StS := ⟨[(3, .row 0), (4, .row 1), (42, .sl tTh), (43, .int .i64), (44, .int .i64)], [(0, .row .str), (1, .row .str)], 2⟩
def x_check_isAlone_39_4_0_0 : StS := ⟨[(2, .undef), (4, .row 0)], [(0, .row .str)], 1⟩
def x_check_isAlone_39_4_0_1 : StS := ⟨[(2, .bool), (4, .row 0)], [(0, .row .str)], 1⟩
abbrev X_check_isAlone_39_4_0 := ((List Th) × Int × Int × (List ByteArray) × (List ByteArray))
def fl_check_isAlone_39_4_0 (d : StD s_check_isAlone_39_4_0) : X_check_isAlone_39_4_0 := (d.1.2.2.1, d.1.2.2.2.1, d.1.2.2.2.2.1, d.2.1, d.2.2.1)
def un_check_isAlone_39_4_0 (x : X_check_isAlone_39_4_0) : StD s_check_isAlone_39_4_0 := (((), (), x.1, x.2.1, x.2.2.1, ()), (x.2.2.2.1, x.2.2.2.2, ()))
abbrev X_check_isAlone_39_4_0_0 := (List ByteArray)
def fl_check_isAlone_39_4_0_0 (d : StD x_check_isAlone_39_4_0_0) : X_check_isAlone_39_4_0_0 := (d.2.1)
def un_check_isAlone_39_4_0_0 (x : X_check_isAlone_39_4_0_0) : StD x_check_isAlone_39_4_0_0 := (((), (), ()), (x, ()))
abbrev X_check_isAlone_39_4_0_1 := (Bool × (List ByteArray))
def fl_check_isAlone_39_4_0_1 (d : StD x_check_isAlone_39_4_0_1) : X_check_isAlone_39_4_0_1 := (d.1.1, d.2.1)
def un_check_isAlone_39_4_0_1 (x : X_check_isAlone_39_4_0_1) : StD x_check_isAlone_39_4_0_1 := ((x.1, (), ()), (x.2, ()))
noncomputable def st_check_isAlone_39_4_0 (s42 : (List Th)) (s43 : Int) (s44 : Int) (b0 : (List ByteArray)) (b1 : (List ByteArray)) : Option (((List Th) × Int × Int × (List ByteArray) × (List ByteArray)) ⊕ ((List ByteArray) ⊕ (Bool × (List ByteArray)))) :=
  bif decide (s44 < s43) then
 bif decide (0 ≤ s44) then
 optC s42[s44.toNat]? none fun d9 ↦
 bif decide ((b1.length + [d9.1].length + 1) * 16 ≤ lim) then
 bif decide (((List.length (α := I) []) + b0.length + 1) * 16 ≤ lim) then
 bif decide ((([] ++ b0).length + List.length d9.2.1 + 1) * 16 ≤ lim) then
 optC (G_check_isTwice ([] ++ b0 ++ d9.2.1, ())) none fun d10 ↦
 bif d10 then some (Sum.inr (Sum.inr (false, b1 ++ [d9.1]))) else some (Sum.inl (s42, s43, Go.IntKind.i64.wrap (s44 + 1), b0, b1 ++ [d9.1]))
 else none
 else none
 else none
 else none
 else some (Sum.inr (Sum.inl b1))
noncomputable def sx_check_isAlone_39_4_0 (x : X_check_isAlone_39_4_0) : Option (X_check_isAlone_39_4_0 ⊕ (X_check_isAlone_39_4_0_0 ⊕ X_check_isAlone_39_4_0_1)) := st_check_isAlone_39_4_0 x.1 x.2.1 x.2.2.1 x.2.2.2.1 x.2.2.2.2
theorem rn_check_isAlone_39_4_0 (x : X_check_isAlone_39_4_0) : rdX cx_check_isAlone_39_4 keeps 8 ⟨39, 63, keeps 39, 0⟩ 4 (bodyX 39 4) 0 kp_check_isAlone_39_4 (sT s_check_isAlone_39_4_0 (un_check_isAlone_39_4_0 x)) (sH s_check_isAlone_39_4_0 (un_check_isAlone_39_4_0 x)) (rdO (fun T h => (rdS s_check_isAlone_39_4_0 T h).map fl_check_isAlone_39_4_0) (getOr (getE 6 x_check_isAlone_39_4_0_0 fl_check_isAlone_39_4_0_0) (getE 1 x_check_isAlone_39_4_0_1 fl_check_isAlone_39_4_0_1))) = sx_check_isAlone_39_4_0 x := by kernel_rfl
noncomputable def L_check_isAlone_39_4_0 (x : X_check_isAlone_39_4_0) : Option (X_check_isAlone_39_4_0_0 ⊕ X_check_isAlone_39_4_0_1) := iterO (fun x => st_check_isAlone_39_4_0 x.1 x.2.1 x.2.2.1 x.2.2.2.1 x.2.2.2.2) FUEL x
noncomputable def q_check_isAlone_39_4 : Nat → Tm → Prog (Nat × Tm) := (varP 0 (fun T h => (rdS s_check_isAlone_39_4_0 T h).map fl_check_isAlone_39_4_0) L_check_isAlone_39_4_0 (fun y => .alt y (altE 6 x_check_isAlone_39_4_0_0 un_check_isAlone_39_4_0_0) (altE 1 x_check_isAlone_39_4_0_1 un_check_isAlone_39_4_0_1)) (fun _ _ => .fail))
noncomputable def lc_check_isAlone_39_4 : Lpc := ⟨39, 4, 63, (ownP [] [(4, .str)] (kp_check_isAlone_39_4 0) (fun base T => .norm base (kp_check_isAlone_39_4 0) T (q_check_isAlone_39_4 base))), by kernel_rfl, by kernel_rfl, (own_sound (loopU sp_check_isAlone [lc_check_isAlone_39_0, lc_check_isAlone_39_2] 40 1048576 8 (keep := kp_check_isAlone_39_4) (q := q_check_isAlone_39_4) (by kernel_rfl) (varX_ok (s := s_check_isAlone_39_4_0) (un := un_check_isAlone_39_4_0) (by rfl) (fun _ => rfl) (getOr_ok (getE_ok (s := x_check_isAlone_39_4_0_0) (un := un_check_isAlone_39_4_0_0) (by rfl) (fun _ => rfl)) (getE_ok (s := x_check_isAlone_39_4_0_1) (un := un_check_isAlone_39_4_0_1) (by rfl) (fun _ => rfl))) (step := sx_check_isAlone_39_4_0) rn_check_isAlone_39_4_0 (fun _ _ e => ⟨_, e⟩) (altOr_ok (altE_ok 6 x_check_isAlone_39_4_0_0 un_check_isAlone_39_4_0_0) (altE_ok 1 x_check_isAlone_39_4_0_1 un_check_isAlone_39_4_0_1)) (VarOk.fail _ _))))⟩
noncomputable def g_check_isAlone (a0 : Pg) : Option Bool :=
  optC (L_check_isAlone_39_0_0 (a0.1, (↑(List.length a0.1) : Int), 0, a0.1, a0.2.1, a0.2.2.1, a0.2.2.2, [])) none fun d5 ↦
 optC (L_check_isAlone_39_2_0 (d5.2.1, (↑d5.2.1.length : Int), 0, d5)) none fun d6 ↦
 bif decide ((d6.2.2.2.2.length + d6.2.2.1.length + 1) * 16 ≤ lim) then
 optC (L_check_isAlone_39_4_0 (d6.2.2.2.1, (↑d6.2.2.2.1.length : Int), 0, d6.2.2.2.2 ++ d6.2.2.1, [])) none fun d7 ↦
 Sum.elim (fun e8 ↦ optC (G_check_isTwice (e8, ())) none fun d9 ↦ some !d9) (fun e8 ↦ some e8.1) d7
 else none
theorem raw_check_isAlone (a0 : Pg) : evGX (cxU sp_check_isAlone [lc_check_isAlone_39_0, lc_check_isAlone_39_2, lc_check_isAlone_39_4] 40 1048576) keeps 8 39 ash_check_isAlone (.dat .bool) ((a0, ()) : (Pg × Unit)) = g_check_isAlone a0 := by kernel_rfl
noncomputable def G_check_isAlone (x : (Pg × Unit)) : Option Bool := g_check_isAlone x.1
noncomputable def con_check_isAlone : List AV → Prog AV := conP false ash_check_isAlone (.dat .bool) G_check_isAlone
theorem snd_check_isAlone : SoundA Tryz.prog 39 con_check_isAlone := conP_sound (calU sp_check_isAlone [lc_check_isAlone_39_0, lc_check_isAlone_39_2, lc_check_isAlone_39_4] 40 1048576 8 39) false (by rfl) (by rfl) (fun x r e => (evGX_eq _ _ _ _ _ _ _).trans ((raw_check_isAlone x.1).trans e)) (.inr fun _ => rfl)
end Go.Proofs.YtmjbedjnojcmfaaGreatDoor.Ex

namespace Go.Proofs.YtmjbedjnojcmfaaGreatDoor.Ex
open Go.Proofs Go.Proofs.YtmjbedjnojcmfaaGreatDoor
set_option maxRecDepth 100000
set_option maxHeartbeats 2000000
set_option linter.unusedVariables false
set_option linter.unusedSimpArgs false
def ash_check_Local : List Sh := [.dat tTh, .dat .str]
noncomputable def sp_check_Local : List Con := [⟨35, con_check_place, snd_check_place⟩]
noncomputable def g_check_Local (a0 : Th) (a1 : ByteArray) : Option Int :=
  optC (G_check_place (a1, a0.2.1, ())) none fun d3 ↦ some d3
theorem raw_check_Local (a0 : Th) (a1 : ByteArray) : evGX (cxU sp_check_Local [] 40 1048576) keeps 8 9 ash_check_Local (.dat (.int .i64)) ((a0, a1, ()) : (Th × (ByteArray × Unit))) = g_check_Local a0 a1 := by kernel_rfl
noncomputable def G_check_Local (x : (Th × (ByteArray × Unit))) : Option Int := g_check_Local x.1 x.2.1
noncomputable def con_check_Local : List AV → Prog AV := conP false ash_check_Local (.dat (.int .i64)) G_check_Local
theorem snd_check_Local : SoundA Tryz.prog 9 con_check_Local := conP_sound (calU sp_check_Local [] 40 1048576 8 9) false (by rfl) (by rfl) (fun x r e => (evGX_eq _ _ _ _ _ _ _).trans ((raw_check_Local x.1 x.2.1).trans e)) (.inr fun _ => rfl)
end Go.Proofs.YtmjbedjnojcmfaaGreatDoor.Ex

namespace Go.Proofs.YtmjbedjnojcmfaaGreatDoor.Ex
open Go.Proofs Go.Proofs.YtmjbedjnojcmfaaGreatDoor
set_option maxRecDepth 100000
set_option maxHeartbeats 2000000
set_option linter.unusedVariables false
set_option linter.unusedSimpArgs false
def ash_check_Global : List Sh := [.dat tPg, .dat .str]
def kp_check_Global_47_0 : Nat → List Nat := fun c => bif c.beq 0 then [0, 1, 7, 8] else [4]
noncomputable def sp_check_Global : List Con := []
def s_check_Global_47_0_0 : StS := ⟨[(0, .sl tGb), (1, .clo 48 [] [.ptr 1 0]), (7, .int .i64), (8, .int .i64)], [(1, .box [.str]), (0, .box [.sl tGb, .sl tGb, .sl .str, .sl tTh])], 2⟩
def x_check_Global_47_0_0_0 : StS := ⟨[(4, .undef)], [(1, .box [.str]), (0, .box [.sl tGb, .sl tGb, .sl .str, .sl tTh])], 2⟩
def x_check_Global_47_0_0_1 : StS := ⟨[(4, .int .i64)], [(1, .box [.str]), (0, .box [.sl tGb, .sl tGb, .sl .str, .sl tTh])], 2⟩
abbrev X_check_Global_47_0_0 := ((List Gb) × Int × Int × ByteArray × (List Gb) × (List Gb) × (List ByteArray) × (List Th))
def fl_check_Global_47_0_0 (d : StD s_check_Global_47_0_0) : X_check_Global_47_0_0 := (d.1.1, d.1.2.2.1, d.1.2.2.2.1, d.2.1.1, d.2.2.1.1, d.2.2.1.2.1, d.2.2.1.2.2.1, d.2.2.1.2.2.2.1)
def un_check_Global_47_0_0 (x : X_check_Global_47_0_0) : StD s_check_Global_47_0_0 := ((x.1, ((), ((), ())), x.2.1, x.2.2.1, ()), ((x.2.2.2.1, ()), (x.2.2.2.2.1, x.2.2.2.2.2.1, x.2.2.2.2.2.2.1, x.2.2.2.2.2.2.2, ()), ()))
abbrev X_check_Global_47_0_0_0 := (ByteArray × (List Gb) × (List Gb) × (List ByteArray) × (List Th))
def fl_check_Global_47_0_0_0 (d : StD x_check_Global_47_0_0_0) : X_check_Global_47_0_0_0 := (d.2.1.1, d.2.2.1.1, d.2.2.1.2.1, d.2.2.1.2.2.1, d.2.2.1.2.2.2.1)
def un_check_Global_47_0_0_0 (x : X_check_Global_47_0_0_0) : StD x_check_Global_47_0_0_0 := (((), ()), ((x.1, ()), (x.2.1, x.2.2.1, x.2.2.2.1, x.2.2.2.2, ()), ()))
abbrev X_check_Global_47_0_0_1 := (Int × ByteArray × (List Gb) × (List Gb) × (List ByteArray) × (List Th))
def fl_check_Global_47_0_0_1 (d : StD x_check_Global_47_0_0_1) : X_check_Global_47_0_0_1 := (d.1.1, d.2.1.1, d.2.2.1.1, d.2.2.1.2.1, d.2.2.1.2.2.1, d.2.2.1.2.2.2.1)
def un_check_Global_47_0_0_1 (x : X_check_Global_47_0_0_1) : StD x_check_Global_47_0_0_1 := ((x.1, ()), ((x.2.1, ()), (x.2.2.1, x.2.2.2.1, x.2.2.2.2.1, x.2.2.2.2.2, ()), ()))
noncomputable def st_check_Global_47_0_0 (s0 : (List Gb)) (s7 : Int) (s8 : Int) (b1 : ByteArray) (b0 : (List Gb)) (b0_1 : (List Gb)) (b0_2 : (List ByteArray)) (b0_3 : (List Th)) : Option (((List Gb) × Int × Int × ByteArray × (List Gb) × (List Gb) × (List ByteArray) × (List Th)) ⊕ ((ByteArray × (List Gb) × (List Gb) × (List ByteArray) × (List Th)) ⊕ (Int × ByteArray × (List Gb) × (List Gb) × (List ByteArray) × (List Th)))) :=
  bif decide (s8 < s7) then
 bif decide (0 ≤ s8) then
 optC s0[s8.toNat]? none fun d10 ↦
 bif ByteArray.toList d10.1 == b1.toList then some (Sum.inr (Sum.inr (s8, b1, b0, b0_1, b0_2, b0_3)))
 else some (Sum.inl (s0, s7, Go.IntKind.i64.wrap (s8 + 1), b1, b0, b0_1, b0_2, b0_3))
 else none
 else some (Sum.inr (Sum.inl (b1, b0, b0_1, b0_2, b0_3)))
noncomputable def sx_check_Global_47_0_0 (x : X_check_Global_47_0_0) : Option (X_check_Global_47_0_0 ⊕ (X_check_Global_47_0_0_0 ⊕ X_check_Global_47_0_0_1)) := st_check_Global_47_0_0 x.1 x.2.1 x.2.2.1 x.2.2.2.1 x.2.2.2.2.1 x.2.2.2.2.2.1 x.2.2.2.2.2.2.1 x.2.2.2.2.2.2.2
theorem rn_check_Global_47_0_0 (x : X_check_Global_47_0_0) : rdX (cxU sp_check_Global [] 40 1048576) keeps 8 ⟨47, 19, keeps 47, 2⟩ 0 (bodyX 47 0) 2 kp_check_Global_47_0 (sT s_check_Global_47_0_0 (un_check_Global_47_0_0 x)) (sH s_check_Global_47_0_0 (un_check_Global_47_0_0 x)) (rdO (fun T h => (rdS s_check_Global_47_0_0 T h).map fl_check_Global_47_0_0) (getOr (getE 2 x_check_Global_47_0_0_0 fl_check_Global_47_0_0_0) (getE 1 x_check_Global_47_0_0_1 fl_check_Global_47_0_0_1))) = sx_check_Global_47_0_0 x := by kernel_rfl
noncomputable def L_check_Global_47_0_0 (x : X_check_Global_47_0_0) : Option (X_check_Global_47_0_0_0 ⊕ X_check_Global_47_0_0_1) := iterO (fun x => st_check_Global_47_0_0 x.1 x.2.1 x.2.2.1 x.2.2.2.1 x.2.2.2.2.1 x.2.2.2.2.2.1 x.2.2.2.2.2.2.1 x.2.2.2.2.2.2.2) FUEL x
noncomputable def q_check_Global_47_0 : Nat → Tm → Prog (Nat × Tm) := (varP 2 (fun T h => (rdS s_check_Global_47_0_0 T h).map fl_check_Global_47_0_0) L_check_Global_47_0_0 (fun y => .alt y (altE 2 x_check_Global_47_0_0_0 un_check_Global_47_0_0_0) (altE 1 x_check_Global_47_0_0_1 un_check_Global_47_0_0_1)) (fun _ _ => .fail))
noncomputable def lc_check_Global_47_0 : Lpc := ⟨47, 0, 19, (fun base T => .norm base (kp_check_Global_47_0 0) T (q_check_Global_47_0 base)), by kernel_rfl, by kernel_rfl, (loopU sp_check_Global [] 40 1048576 8 (keep := kp_check_Global_47_0) (q := q_check_Global_47_0) (by kernel_rfl) (varX_ok (s := s_check_Global_47_0_0) (un := un_check_Global_47_0_0) (by rfl) (fun _ => rfl) (getOr_ok (getE_ok (s := x_check_Global_47_0_0_0) (un := un_check_Global_47_0_0_0) (by rfl) (fun _ => rfl)) (getE_ok (s := x_check_Global_47_0_0_1) (un := un_check_Global_47_0_0_1) (by rfl) (fun _ => rfl))) (step := sx_check_Global_47_0_0) rn_check_Global_47_0_0 (fun _ _ e => ⟨_, e⟩) (altOr_ok (altE_ok 2 x_check_Global_47_0_0_0 un_check_Global_47_0_0_0) (altE_ok 1 x_check_Global_47_0_0_1 un_check_Global_47_0_0_1)) (VarOk.fail _ _)))⟩
noncomputable def g_check_Global (a0 : Pg) (a1 : ByteArray) : Option Int :=
  optC (L_check_Global_47_0_0 (a0.1, (↑(List.length a0.1) : Int), 0, a1, a0)) none fun d4 ↦ Sum.elim (fun e5 ↦ some (-1)) (fun e5 ↦ some e5.1) d4
theorem raw_check_Global (a0 : Pg) (a1 : ByteArray) : evGX (cxU sp_check_Global [lc_check_Global_47_0] 40 1048576) keeps 8 13 ash_check_Global (.dat (.int .i64)) ((a0, a1, ()) : (Pg × (ByteArray × Unit))) = g_check_Global a0 a1 := by kernel_rfl
noncomputable def G_check_Global (x : (Pg × (ByteArray × Unit))) : Option Int := g_check_Global x.1 x.2.1
noncomputable def con_check_Global : List AV → Prog AV := conP false ash_check_Global (.dat (.int .i64)) G_check_Global
theorem snd_check_Global : SoundA Tryz.prog 13 con_check_Global := conP_sound (calU sp_check_Global [lc_check_Global_47_0] 40 1048576 8 13) false (by rfl) (by rfl) (fun x r e => (evGX_eq _ _ _ _ _ _ _).trans ((raw_check_Global x.1 x.2.1).trans e)) (.inr fun _ => rfl)
end Go.Proofs.YtmjbedjnojcmfaaGreatDoor.Ex

namespace Go.Proofs.YtmjbedjnojcmfaaGreatDoor.Ex
open Go.Proofs Go.Proofs.YtmjbedjnojcmfaaGreatDoor
set_option maxRecDepth 100000
set_option maxHeartbeats 2000000
set_option linter.unusedVariables false
set_option linter.unusedSimpArgs false
def ash_check_scope_isVar : List Sh := [.dat (.st (.pair tPg tTh)), .dat .str]
noncomputable def sp_check_scope_isVar : List Con := [⟨9, con_check_Local, snd_check_Local⟩, ⟨13, con_check_Global, snd_check_Global⟩]
noncomputable def g_check_scope_isVar (a0 : (Pg × Th)) (a1 : ByteArray) : Option Bool :=
  optC (G_check_Local (a0.2, a1, ())) none fun d3 ↦
 bif decide (d3 ≥ 0) then some true else optC (G_check_Global (a0.1, a1, ())) none fun d4 ↦ some (decide (d4 ≥ 0))
theorem raw_check_scope_isVar (a0 : (Pg × Th)) (a1 : ByteArray) : evGX (cxU sp_check_scope_isVar [] 40 1048576) keeps 8 93 ash_check_scope_isVar (.dat .bool) ((a0, a1, ()) : ((Pg × Th) × (ByteArray × Unit))) = g_check_scope_isVar a0 a1 := by kernel_rfl
noncomputable def G_check_scope_isVar (x : ((Pg × Th) × (ByteArray × Unit))) : Option Bool := g_check_scope_isVar x.1 x.2.1
noncomputable def con_check_scope_isVar : List AV → Prog AV := conP true ash_check_scope_isVar (.dat .bool) G_check_scope_isVar
theorem snd_check_scope_isVar : SoundA Tryz.prog 93 con_check_scope_isVar := conP_sound (calU sp_check_scope_isVar [] 40 1048576 8 93) true (by rfl) (by rfl) (fun x r e => (evGX_eq _ _ _ _ _ _ _).trans ((raw_check_scope_isVar x.1 x.2.1).trans e)) (.inl rfl)
end Go.Proofs.YtmjbedjnojcmfaaGreatDoor.Ex

namespace Go.Proofs.YtmjbedjnojcmfaaGreatDoor.Ex
open Go.Proofs Go.Proofs.YtmjbedjnojcmfaaGreatDoor
set_option maxRecDepth 100000
set_option maxHeartbeats 2000000
set_option linter.unusedVariables false
set_option linter.unusedSimpArgs false
def ash_check_Array : List Sh := [.dat tPg, .dat .str]
def kp_check_Array_49_0 : Nat → List Nat := fun c => bif c.beq 0 then [0, 1, 7, 8] else [4]
noncomputable def sp_check_Array : List Con := []
def s_check_Array_49_0_0 : StS := ⟨[(0, .sl tGb), (1, .clo 50 [] [.ptr 1 0]), (7, .int .i64), (8, .int .i64)], [(1, .box [.str]), (0, .box [.sl tGb, .sl tGb, .sl .str, .sl tTh])], 2⟩
def x_check_Array_49_0_0_0 : StS := ⟨[(4, .undef)], [(1, .box [.str]), (0, .box [.sl tGb, .sl tGb, .sl .str, .sl tTh])], 2⟩
def x_check_Array_49_0_0_1 : StS := ⟨[(4, .int .i64)], [(1, .box [.str]), (0, .box [.sl tGb, .sl tGb, .sl .str, .sl tTh])], 2⟩
abbrev X_check_Array_49_0_0 := ((List Gb) × Int × Int × ByteArray × (List Gb) × (List Gb) × (List ByteArray) × (List Th))
def fl_check_Array_49_0_0 (d : StD s_check_Array_49_0_0) : X_check_Array_49_0_0 := (d.1.1, d.1.2.2.1, d.1.2.2.2.1, d.2.1.1, d.2.2.1.1, d.2.2.1.2.1, d.2.2.1.2.2.1, d.2.2.1.2.2.2.1)
def un_check_Array_49_0_0 (x : X_check_Array_49_0_0) : StD s_check_Array_49_0_0 := ((x.1, ((), ((), ())), x.2.1, x.2.2.1, ()), ((x.2.2.2.1, ()), (x.2.2.2.2.1, x.2.2.2.2.2.1, x.2.2.2.2.2.2.1, x.2.2.2.2.2.2.2, ()), ()))
abbrev X_check_Array_49_0_0_0 := (ByteArray × (List Gb) × (List Gb) × (List ByteArray) × (List Th))
def fl_check_Array_49_0_0_0 (d : StD x_check_Array_49_0_0_0) : X_check_Array_49_0_0_0 := (d.2.1.1, d.2.2.1.1, d.2.2.1.2.1, d.2.2.1.2.2.1, d.2.2.1.2.2.2.1)
def un_check_Array_49_0_0_0 (x : X_check_Array_49_0_0_0) : StD x_check_Array_49_0_0_0 := (((), ()), ((x.1, ()), (x.2.1, x.2.2.1, x.2.2.2.1, x.2.2.2.2, ()), ()))
abbrev X_check_Array_49_0_0_1 := (Int × ByteArray × (List Gb) × (List Gb) × (List ByteArray) × (List Th))
def fl_check_Array_49_0_0_1 (d : StD x_check_Array_49_0_0_1) : X_check_Array_49_0_0_1 := (d.1.1, d.2.1.1, d.2.2.1.1, d.2.2.1.2.1, d.2.2.1.2.2.1, d.2.2.1.2.2.2.1)
def un_check_Array_49_0_0_1 (x : X_check_Array_49_0_0_1) : StD x_check_Array_49_0_0_1 := ((x.1, ()), ((x.2.1, ()), (x.2.2.1, x.2.2.2.1, x.2.2.2.2.1, x.2.2.2.2.2, ()), ()))
noncomputable def st_check_Array_49_0_0 (s0 : (List Gb)) (s7 : Int) (s8 : Int) (b1 : ByteArray) (b0 : (List Gb)) (b0_1 : (List Gb)) (b0_2 : (List ByteArray)) (b0_3 : (List Th)) : Option (((List Gb) × Int × Int × ByteArray × (List Gb) × (List Gb) × (List ByteArray) × (List Th)) ⊕ ((ByteArray × (List Gb) × (List Gb) × (List ByteArray) × (List Th)) ⊕ (Int × ByteArray × (List Gb) × (List Gb) × (List ByteArray) × (List Th)))) :=
  bif decide (s8 < s7) then
 bif decide (0 ≤ s8) then
 optC s0[s8.toNat]? none fun d10 ↦
 bif ByteArray.toList d10.1 == b1.toList then some (Sum.inr (Sum.inr (s8, b1, b0, b0_1, b0_2, b0_3)))
 else some (Sum.inl (s0, s7, Go.IntKind.i64.wrap (s8 + 1), b1, b0, b0_1, b0_2, b0_3))
 else none
 else some (Sum.inr (Sum.inl (b1, b0, b0_1, b0_2, b0_3)))
noncomputable def sx_check_Array_49_0_0 (x : X_check_Array_49_0_0) : Option (X_check_Array_49_0_0 ⊕ (X_check_Array_49_0_0_0 ⊕ X_check_Array_49_0_0_1)) := st_check_Array_49_0_0 x.1 x.2.1 x.2.2.1 x.2.2.2.1 x.2.2.2.2.1 x.2.2.2.2.2.1 x.2.2.2.2.2.2.1 x.2.2.2.2.2.2.2
theorem rn_check_Array_49_0_0 (x : X_check_Array_49_0_0) : rdX (cxU sp_check_Array [] 40 1048576) keeps 8 ⟨49, 19, keeps 49, 2⟩ 0 (bodyX 49 0) 2 kp_check_Array_49_0 (sT s_check_Array_49_0_0 (un_check_Array_49_0_0 x)) (sH s_check_Array_49_0_0 (un_check_Array_49_0_0 x)) (rdO (fun T h => (rdS s_check_Array_49_0_0 T h).map fl_check_Array_49_0_0) (getOr (getE 2 x_check_Array_49_0_0_0 fl_check_Array_49_0_0_0) (getE 1 x_check_Array_49_0_0_1 fl_check_Array_49_0_0_1))) = sx_check_Array_49_0_0 x := by kernel_rfl
noncomputable def L_check_Array_49_0_0 (x : X_check_Array_49_0_0) : Option (X_check_Array_49_0_0_0 ⊕ X_check_Array_49_0_0_1) := iterO (fun x => st_check_Array_49_0_0 x.1 x.2.1 x.2.2.1 x.2.2.2.1 x.2.2.2.2.1 x.2.2.2.2.2.1 x.2.2.2.2.2.2.1 x.2.2.2.2.2.2.2) FUEL x
noncomputable def q_check_Array_49_0 : Nat → Tm → Prog (Nat × Tm) := (varP 2 (fun T h => (rdS s_check_Array_49_0_0 T h).map fl_check_Array_49_0_0) L_check_Array_49_0_0 (fun y => .alt y (altE 2 x_check_Array_49_0_0_0 un_check_Array_49_0_0_0) (altE 1 x_check_Array_49_0_0_1 un_check_Array_49_0_0_1)) (fun _ _ => .fail))
noncomputable def lc_check_Array_49_0 : Lpc := ⟨49, 0, 19, (fun base T => .norm base (kp_check_Array_49_0 0) T (q_check_Array_49_0 base)), by kernel_rfl, by kernel_rfl, (loopU sp_check_Array [] 40 1048576 8 (keep := kp_check_Array_49_0) (q := q_check_Array_49_0) (by kernel_rfl) (varX_ok (s := s_check_Array_49_0_0) (un := un_check_Array_49_0_0) (by rfl) (fun _ => rfl) (getOr_ok (getE_ok (s := x_check_Array_49_0_0_0) (un := un_check_Array_49_0_0_0) (by rfl) (fun _ => rfl)) (getE_ok (s := x_check_Array_49_0_0_1) (un := un_check_Array_49_0_0_1) (by rfl) (fun _ => rfl))) (step := sx_check_Array_49_0_0) rn_check_Array_49_0_0 (fun _ _ e => ⟨_, e⟩) (altOr_ok (altE_ok 2 x_check_Array_49_0_0_0 un_check_Array_49_0_0_0) (altE_ok 1 x_check_Array_49_0_0_1 un_check_Array_49_0_0_1)) (VarOk.fail _ _)))⟩
noncomputable def g_check_Array (a0 : Pg) (a1 : ByteArray) : Option Int :=
  optC (L_check_Array_49_0_0 (a0.2.1, (↑(List.length a0.2.1) : Int), 0, a1, a0)) none fun d4 ↦ Sum.elim (fun e5 ↦ some (-1)) (fun e5 ↦ some e5.1) d4
theorem raw_check_Array (a0 : Pg) (a1 : ByteArray) : evGX (cxU sp_check_Array [lc_check_Array_49_0] 40 1048576) keeps 8 15 ash_check_Array (.dat (.int .i64)) ((a0, a1, ()) : (Pg × (ByteArray × Unit))) = g_check_Array a0 a1 := by kernel_rfl
noncomputable def G_check_Array (x : (Pg × (ByteArray × Unit))) : Option Int := g_check_Array x.1 x.2.1
noncomputable def con_check_Array : List AV → Prog AV := conP false ash_check_Array (.dat (.int .i64)) G_check_Array
theorem snd_check_Array : SoundA Tryz.prog 15 con_check_Array := conP_sound (calU sp_check_Array [lc_check_Array_49_0] 40 1048576 8 15) false (by rfl) (by rfl) (fun x r e => (evGX_eq _ _ _ _ _ _ _).trans ((raw_check_Array x.1 x.2.1).trans e)) (.inr fun _ => rfl)
end Go.Proofs.YtmjbedjnojcmfaaGreatDoor.Ex

namespace Go.Proofs.YtmjbedjnojcmfaaGreatDoor.Ex
open Go.Proofs Go.Proofs.YtmjbedjnojcmfaaGreatDoor
set_option maxRecDepth 100000
set_option maxHeartbeats 2000000
set_option linter.unusedVariables false
set_option linter.unusedSimpArgs false
def ash_check_scope_expr : List Sh := [.dat (.st (.pair tPg tTh)), .dat tX]
def kp_check_scope_expr_185_0 : Nat → List Nat := fun c => bif c.beq 0 then [0, 1, 7, 8] else [4]
class Rec_check_scope_expr where
  K : ((Pg × Th) × (Xp × Unit)) → Option Bool
  s : SoundA Tryz.prog 94 (conP true ash_check_scope_expr (.dat .bool) K)
section
variable [Rec_check_scope_expr]
noncomputable def sp_check_scope_expr : List Con := [⟨93, con_check_scope_isVar, snd_check_scope_isVar⟩, ⟨15, con_check_Array, snd_check_Array⟩, ⟨94, (conP true ash_check_scope_expr (.dat .bool) Rec_check_scope_expr.K), Rec_check_scope_expr.s⟩]
def s_check_scope_expr_185_0_0 : StS := ⟨[(0, .sl (.mu 0)), (1, .clo 163 [] [.ptr 2 0]), (7, .int .i64), (8, .int .i64)], [(2, .box [.clo 94 [.agg [.sl tGb, .sl tGb, .sl .str, .sl tTh, .str, .sl .str, .sl (.mu 2)]] []]), (1, .box [.int .i64, .int .i64, .int .i64, .str, .sl (.mu 0)]), (0, .box [.sl tGb, .sl tGb, .sl .str, .sl tTh, .str, .sl .str, .sl (.mu 2)])], 3⟩
def x_check_scope_expr_185_0_0_0 : StS := ⟨[(4, .undef)], [(2, .box [.clo 94 [.agg [.sl tGb, .sl tGb, .sl .str, .sl tTh, .str, .sl .str, .sl (.mu 2)]] []]), (1, .box [.int .i64, .int .i64, .int .i64, .str, .sl (.mu 0)]), (0, .box [.sl tGb, .sl tGb, .sl .str, .sl tTh, .str, .sl .str, .sl (.mu 2)])], 3⟩
def x_check_scope_expr_185_0_0_1 : StS := ⟨[(4, .int .i64)], [(2, .box [.clo 94 [.agg [.sl tGb, .sl tGb, .sl .str, .sl tTh, .str, .sl .str, .sl (.mu 2)]] []]), (1, .box [.int .i64, .int .i64, .int .i64, .str, .sl (.mu 0)]), (0, .box [.sl tGb, .sl tGb, .sl .str, .sl tTh, .str, .sl .str, .sl (.mu 2)])], 3⟩
abbrev X_check_scope_expr_185_0_0 := ((List (RT.C 0)) × Int × Int × (List Gb) × (List Gb) × (List ByteArray) × (List Th) × ByteArray × (List ByteArray) × (List (RT.C 2)) × Int × Int × Int × ByteArray × (List (RT.C 0)) × (List Gb) × (List Gb) × (List ByteArray) × (List Th) × ByteArray × (List ByteArray) × (List (RT.C 2)))
def fl_check_scope_expr_185_0_0 (d : StD s_check_scope_expr_185_0_0) : X_check_scope_expr_185_0_0 := (d.1.1, d.1.2.2.1, d.1.2.2.2.1, d.2.1.1.1.1.1, d.2.1.1.1.1.2.1, d.2.1.1.1.1.2.2.1, d.2.1.1.1.1.2.2.2.1, d.2.1.1.1.1.2.2.2.2.1, d.2.1.1.1.1.2.2.2.2.2.1, d.2.1.1.1.1.2.2.2.2.2.2.1, d.2.2.1.1, d.2.2.1.2.1, d.2.2.1.2.2.1, d.2.2.1.2.2.2.1, d.2.2.1.2.2.2.2.1, d.2.2.2.1.1, d.2.2.2.1.2.1, d.2.2.2.1.2.2.1, d.2.2.2.1.2.2.2.1, d.2.2.2.1.2.2.2.2.1, d.2.2.2.1.2.2.2.2.2.1, d.2.2.2.1.2.2.2.2.2.2.1)
def un_check_scope_expr_185_0_0 (x : X_check_scope_expr_185_0_0) : StD s_check_scope_expr_185_0_0 := ((x.1, ((), ((), ())), x.2.1, x.2.2.1, ()), (((((x.2.2.2.1, x.2.2.2.2.1, x.2.2.2.2.2.1, x.2.2.2.2.2.2.1, x.2.2.2.2.2.2.2.1, x.2.2.2.2.2.2.2.2.1, x.2.2.2.2.2.2.2.2.2.1, ()), ()), ()), ()), (x.2.2.2.2.2.2.2.2.2.2.1, x.2.2.2.2.2.2.2.2.2.2.2.1, x.2.2.2.2.2.2.2.2.2.2.2.2.1, x.2.2.2.2.2.2.2.2.2.2.2.2.2.1, x.2.2.2.2.2.2.2.2.2.2.2.2.2.2.1, ()), (x.2.2.2.2.2.2.2.2.2.2.2.2.2.2.2.1, x.2.2.2.2.2.2.2.2.2.2.2.2.2.2.2.2.1, x.2.2.2.2.2.2.2.2.2.2.2.2.2.2.2.2.2.1, x.2.2.2.2.2.2.2.2.2.2.2.2.2.2.2.2.2.2.1, x.2.2.2.2.2.2.2.2.2.2.2.2.2.2.2.2.2.2.2.1, x.2.2.2.2.2.2.2.2.2.2.2.2.2.2.2.2.2.2.2.2.1, x.2.2.2.2.2.2.2.2.2.2.2.2.2.2.2.2.2.2.2.2.2, ()), ()))
abbrev X_check_scope_expr_185_0_0_0 := ((List Gb) × (List Gb) × (List ByteArray) × (List Th) × ByteArray × (List ByteArray) × (List (RT.C 2)) × Int × Int × Int × ByteArray × (List (RT.C 0)) × (List Gb) × (List Gb) × (List ByteArray) × (List Th) × ByteArray × (List ByteArray) × (List (RT.C 2)))
def fl_check_scope_expr_185_0_0_0 (d : StD x_check_scope_expr_185_0_0_0) : X_check_scope_expr_185_0_0_0 := (d.2.1.1.1.1.1, d.2.1.1.1.1.2.1, d.2.1.1.1.1.2.2.1, d.2.1.1.1.1.2.2.2.1, d.2.1.1.1.1.2.2.2.2.1, d.2.1.1.1.1.2.2.2.2.2.1, d.2.1.1.1.1.2.2.2.2.2.2.1, d.2.2.1.1, d.2.2.1.2.1, d.2.2.1.2.2.1, d.2.2.1.2.2.2.1, d.2.2.1.2.2.2.2.1, d.2.2.2.1.1, d.2.2.2.1.2.1, d.2.2.2.1.2.2.1, d.2.2.2.1.2.2.2.1, d.2.2.2.1.2.2.2.2.1, d.2.2.2.1.2.2.2.2.2.1, d.2.2.2.1.2.2.2.2.2.2.1)
def un_check_scope_expr_185_0_0_0 (x : X_check_scope_expr_185_0_0_0) : StD x_check_scope_expr_185_0_0_0 := (((), ()), (((((x.1, x.2.1, x.2.2.1, x.2.2.2.1, x.2.2.2.2.1, x.2.2.2.2.2.1, x.2.2.2.2.2.2.1, ()), ()), ()), ()), (x.2.2.2.2.2.2.2.1, x.2.2.2.2.2.2.2.2.1, x.2.2.2.2.2.2.2.2.2.1, x.2.2.2.2.2.2.2.2.2.2.1, x.2.2.2.2.2.2.2.2.2.2.2.1, ()), (x.2.2.2.2.2.2.2.2.2.2.2.2.1, x.2.2.2.2.2.2.2.2.2.2.2.2.2.1, x.2.2.2.2.2.2.2.2.2.2.2.2.2.2.1, x.2.2.2.2.2.2.2.2.2.2.2.2.2.2.2.1, x.2.2.2.2.2.2.2.2.2.2.2.2.2.2.2.2.1, x.2.2.2.2.2.2.2.2.2.2.2.2.2.2.2.2.2.1, x.2.2.2.2.2.2.2.2.2.2.2.2.2.2.2.2.2.2, ()), ()))
abbrev X_check_scope_expr_185_0_0_1 := (Int × (List Gb) × (List Gb) × (List ByteArray) × (List Th) × ByteArray × (List ByteArray) × (List (RT.C 2)) × Int × Int × Int × ByteArray × (List (RT.C 0)) × (List Gb) × (List Gb) × (List ByteArray) × (List Th) × ByteArray × (List ByteArray) × (List (RT.C 2)))
def fl_check_scope_expr_185_0_0_1 (d : StD x_check_scope_expr_185_0_0_1) : X_check_scope_expr_185_0_0_1 := (d.1.1, d.2.1.1.1.1.1, d.2.1.1.1.1.2.1, d.2.1.1.1.1.2.2.1, d.2.1.1.1.1.2.2.2.1, d.2.1.1.1.1.2.2.2.2.1, d.2.1.1.1.1.2.2.2.2.2.1, d.2.1.1.1.1.2.2.2.2.2.2.1, d.2.2.1.1, d.2.2.1.2.1, d.2.2.1.2.2.1, d.2.2.1.2.2.2.1, d.2.2.1.2.2.2.2.1, d.2.2.2.1.1, d.2.2.2.1.2.1, d.2.2.2.1.2.2.1, d.2.2.2.1.2.2.2.1, d.2.2.2.1.2.2.2.2.1, d.2.2.2.1.2.2.2.2.2.1, d.2.2.2.1.2.2.2.2.2.2.1)
def un_check_scope_expr_185_0_0_1 (x : X_check_scope_expr_185_0_0_1) : StD x_check_scope_expr_185_0_0_1 := ((x.1, ()), (((((x.2.1, x.2.2.1, x.2.2.2.1, x.2.2.2.2.1, x.2.2.2.2.2.1, x.2.2.2.2.2.2.1, x.2.2.2.2.2.2.2.1, ()), ()), ()), ()), (x.2.2.2.2.2.2.2.2.1, x.2.2.2.2.2.2.2.2.2.1, x.2.2.2.2.2.2.2.2.2.2.1, x.2.2.2.2.2.2.2.2.2.2.2.1, x.2.2.2.2.2.2.2.2.2.2.2.2.1, ()), (x.2.2.2.2.2.2.2.2.2.2.2.2.2.1, x.2.2.2.2.2.2.2.2.2.2.2.2.2.2.1, x.2.2.2.2.2.2.2.2.2.2.2.2.2.2.2.1, x.2.2.2.2.2.2.2.2.2.2.2.2.2.2.2.2.1, x.2.2.2.2.2.2.2.2.2.2.2.2.2.2.2.2.2.1, x.2.2.2.2.2.2.2.2.2.2.2.2.2.2.2.2.2.2.1, x.2.2.2.2.2.2.2.2.2.2.2.2.2.2.2.2.2.2.2, ()), ()))
noncomputable def st_check_scope_expr_185_0_0 (s0 : (List (RT.C 0))) (s7 : Int) (s8 : Int) (b2 : (List Gb)) (b2_1 : (List Gb)) (b2_2 : (List ByteArray)) (b2_3 : (List Th)) (b2_4 : ByteArray) (b2_5 : (List ByteArray)) (b2_6 : (List (RT.C 2))) (b1 : Int) (b1_1 : Int) (b1_2 : Int) (b1_3 : ByteArray) (b1_4 : (List (RT.C 0))) (b0 : (List Gb)) (b0_1 : (List Gb)) (b0_2 : (List ByteArray)) (b0_3 : (List Th)) (b0_4 : ByteArray) (b0_5 : (List ByteArray)) (b0_6 : (List (RT.C 2))) : Option (((List (RT.C 0)) × Int × Int × (List Gb) × (List Gb) × (List ByteArray) × (List Th) × ByteArray × (List ByteArray) × (List (RT.C 2)) × Int × Int × Int × ByteArray × (List (RT.C 0)) × (List Gb) × (List Gb) × (List ByteArray) × (List Th) × ByteArray × (List ByteArray) × (List (RT.C 2))) ⊕ (((List Gb) × (List Gb) × (List ByteArray) × (List Th) × ByteArray × (List ByteArray) × (List (RT.C 2)) × Int × Int × Int × ByteArray × (List (RT.C 0)) × (List Gb) × (List Gb) × (List ByteArray) × (List Th) × ByteArray × (List ByteArray) × (List (RT.C 2))) ⊕ (Int × (List Gb) × (List Gb) × (List ByteArray) × (List Th) × ByteArray × (List ByteArray) × (List (RT.C 2)) × Int × Int × Int × ByteArray × (List (RT.C 0)) × (List Gb) × (List Gb) × (List ByteArray) × (List Th) × ByteArray × (List ByteArray) × (List (RT.C 2))))) :=
  bif decide (s8 < s7) then
 bif decide (0 ≤ s8) then
 optC s0[s8.toNat]? none fun d25 ↦
 optC (Rec_check_scope_expr.K (((b2, b2_1, b2_2, b2_3), b2_4, b2_5, b2_6), uT0 d25, ())) none fun d26 ↦
 bif !d26 then some (Sum.inr (Sum.inr (s8, b2, b2_1, b2_2, b2_3, b2_4, b2_5, b2_6, b1, b1_1, b1_2, b1_3, b1_4, b0, b0_1, b0_2, b0_3, b0_4, b0_5, b0_6)))
 else some (Sum.inl (s0, s7, Go.IntKind.i64.wrap (s8 + 1), b2, b2_1, b2_2, b2_3, b2_4, b2_5, b2_6, b1, b1_1, b1_2, b1_3, b1_4, b0, b0_1, b0_2, b0_3, b0_4, b0_5, b0_6))
 else none
 else some (Sum.inr (Sum.inl (b2, b2_1, b2_2, b2_3, b2_4, b2_5, b2_6, b1, b1_1, b1_2, b1_3, b1_4, b0, b0_1, b0_2, b0_3, b0_4, b0_5, b0_6)))
noncomputable def sx_check_scope_expr_185_0_0 (x : X_check_scope_expr_185_0_0) : Option (X_check_scope_expr_185_0_0 ⊕ (X_check_scope_expr_185_0_0_0 ⊕ X_check_scope_expr_185_0_0_1)) := st_check_scope_expr_185_0_0 x.1 x.2.1 x.2.2.1 x.2.2.2.1 x.2.2.2.2.1 x.2.2.2.2.2.1 x.2.2.2.2.2.2.1 x.2.2.2.2.2.2.2.1 x.2.2.2.2.2.2.2.2.1 x.2.2.2.2.2.2.2.2.2.1 x.2.2.2.2.2.2.2.2.2.2.1 x.2.2.2.2.2.2.2.2.2.2.2.1 x.2.2.2.2.2.2.2.2.2.2.2.2.1 x.2.2.2.2.2.2.2.2.2.2.2.2.2.1 x.2.2.2.2.2.2.2.2.2.2.2.2.2.2.1 x.2.2.2.2.2.2.2.2.2.2.2.2.2.2.2.1 x.2.2.2.2.2.2.2.2.2.2.2.2.2.2.2.2.1 x.2.2.2.2.2.2.2.2.2.2.2.2.2.2.2.2.2.1 x.2.2.2.2.2.2.2.2.2.2.2.2.2.2.2.2.2.2.1 x.2.2.2.2.2.2.2.2.2.2.2.2.2.2.2.2.2.2.2.1 x.2.2.2.2.2.2.2.2.2.2.2.2.2.2.2.2.2.2.2.2.1 x.2.2.2.2.2.2.2.2.2.2.2.2.2.2.2.2.2.2.2.2.2
theorem rn_check_scope_expr_185_0_0 (x : X_check_scope_expr_185_0_0) : rdX (cxU sp_check_scope_expr [] 40 (1048576 ^ 9)) keeps 8 ⟨185, 19, keeps 185, 3⟩ 0 (bodyX 185 0) 3 kp_check_scope_expr_185_0 (sT s_check_scope_expr_185_0_0 (un_check_scope_expr_185_0_0 x)) (sH s_check_scope_expr_185_0_0 (un_check_scope_expr_185_0_0 x)) (rdO (fun T h => (rdS s_check_scope_expr_185_0_0 T h).map fl_check_scope_expr_185_0_0) (getOr (getE 2 x_check_scope_expr_185_0_0_0 fl_check_scope_expr_185_0_0_0) (getE 1 x_check_scope_expr_185_0_0_1 fl_check_scope_expr_185_0_0_1))) = sx_check_scope_expr_185_0_0 x := by kernel_rfl
noncomputable def L_check_scope_expr_185_0_0 (x : X_check_scope_expr_185_0_0) : Option (X_check_scope_expr_185_0_0_0 ⊕ X_check_scope_expr_185_0_0_1) := iterO (fun x => st_check_scope_expr_185_0_0 x.1 x.2.1 x.2.2.1 x.2.2.2.1 x.2.2.2.2.1 x.2.2.2.2.2.1 x.2.2.2.2.2.2.1 x.2.2.2.2.2.2.2.1 x.2.2.2.2.2.2.2.2.1 x.2.2.2.2.2.2.2.2.2.1 x.2.2.2.2.2.2.2.2.2.2.1 x.2.2.2.2.2.2.2.2.2.2.2.1 x.2.2.2.2.2.2.2.2.2.2.2.2.1 x.2.2.2.2.2.2.2.2.2.2.2.2.2.1 x.2.2.2.2.2.2.2.2.2.2.2.2.2.2.1 x.2.2.2.2.2.2.2.2.2.2.2.2.2.2.2.1 x.2.2.2.2.2.2.2.2.2.2.2.2.2.2.2.2.1 x.2.2.2.2.2.2.2.2.2.2.2.2.2.2.2.2.2.1 x.2.2.2.2.2.2.2.2.2.2.2.2.2.2.2.2.2.2.1 x.2.2.2.2.2.2.2.2.2.2.2.2.2.2.2.2.2.2.2.1 x.2.2.2.2.2.2.2.2.2.2.2.2.2.2.2.2.2.2.2.2.1 x.2.2.2.2.2.2.2.2.2.2.2.2.2.2.2.2.2.2.2.2.2) FUEL x
noncomputable def q_check_scope_expr_185_0 : Nat → Tm → Prog (Nat × Tm) := (varP 3 (fun T h => (rdS s_check_scope_expr_185_0_0 T h).map fl_check_scope_expr_185_0_0) L_check_scope_expr_185_0_0 (fun y => .alt y (altE 2 x_check_scope_expr_185_0_0_0 un_check_scope_expr_185_0_0_0) (altE 1 x_check_scope_expr_185_0_0_1 un_check_scope_expr_185_0_0_1)) (fun _ _ => .fail))
noncomputable def lc_check_scope_expr_185_0 : Lpc := ⟨185, 0, 19, (fun base T => .norm base (kp_check_scope_expr_185_0 0) T (q_check_scope_expr_185_0 base)), by kernel_rfl, by kernel_rfl, (loopU sp_check_scope_expr [] 40 (1048576 ^ 9) 8 (keep := kp_check_scope_expr_185_0) (q := q_check_scope_expr_185_0) (by kernel_rfl) (varX_ok (s := s_check_scope_expr_185_0_0) (un := un_check_scope_expr_185_0_0) (by rfl) (fun _ => rfl) (getOr_ok (getE_ok (s := x_check_scope_expr_185_0_0_0) (un := un_check_scope_expr_185_0_0_0) (by rfl) (fun _ => rfl)) (getE_ok (s := x_check_scope_expr_185_0_0_1) (un := un_check_scope_expr_185_0_0_1) (by rfl) (fun _ => rfl))) (step := sx_check_scope_expr_185_0_0) rn_check_scope_expr_185_0_0 (fun _ _ e => ⟨_, e⟩) (altOr_ok (altE_ok 2 x_check_scope_expr_185_0_0_0 un_check_scope_expr_185_0_0_0) (altE_ok 1 x_check_scope_expr_185_0_0_1 un_check_scope_expr_185_0_0_1)) (VarOk.fail _ _)))⟩
noncomputable def g_check_scope_expr (a0 : (Pg × Th)) (a1 : Xp) : Option Bool :=
  bif a1.1 != 2 then
 bif a1.1 != 3 then
 optC
 (L_check_scope_expr_185_0_0
 (a1.2.2.2.2, (↑(List.length a1.2.2.2.2) : Int), 0, a0.1.1, a0.1.2.1, a0.1.2.2.1, a0.1.2.2.2, a0.2.1, a0.2.2.1, a0.2.2.2, a1.1,
 a1.2.1, a1.2.2.1, a1.2.2.2.1, a1.2.2.2.2, a0.1.1, a0.1.2.1, a0.1.2.2.1, a0.1.2.2.2, a0.2))
 none fun d5 ↦ Sum.elim (fun e6 ↦ some !decide (-1 ≥ 0)) (fun e6 ↦ some !decide (e6.1 ≥ 0)) d5
 else
 optC (G_check_Array (a0.1, a1.2.2.2.1, ())) none fun d5 ↦
 bif decide (d5 ≥ 0) then
 optC
 (L_check_scope_expr_185_0_0
 (a1.2.2.2.2, (↑(List.length a1.2.2.2.2) : Int), 0, a0.1.1, a0.1.2.1, a0.1.2.2.1, a0.1.2.2.2, a0.2.1, a0.2.2.1, a0.2.2.2, a1.1,
 a1.2.1, a1.2.2.1, a1.2.2.2.1, a1.2.2.2.2, a0.1.1, a0.1.2.1, a0.1.2.2.1, a0.1.2.2.2, a0.2))
 none fun d6 ↦ Sum.elim (fun e7 ↦ some !decide (-1 ≥ 0)) (fun e7 ↦ some !decide (e7.1 ≥ 0)) d6
 else some false
 else
 optC (G_check_scope_isVar (a0, a1.2.2.2.1, ())) none fun d5 ↦
 bif d5 then
 bif a1.1 != 3 then
 optC
 (L_check_scope_expr_185_0_0
 (a1.2.2.2.2, (↑(List.length a1.2.2.2.2) : Int), 0, a0.1.1, a0.1.2.1, a0.1.2.2.1, a0.1.2.2.2, a0.2.1, a0.2.2.1, a0.2.2.2, a1.1,
 a1.2.1, a1.2.2.1, a1.2.2.2.1, a1.2.2.2.2, a0.1.1, a0.1.2.1, a0.1.2.2.1, a0.1.2.2.2, a0.2))
 none fun d6 ↦ Sum.elim (fun e7 ↦ some !decide (-1 ≥ 0)) (fun e7 ↦ some !decide (e7.1 ≥ 0)) d6
 else
 optC (G_check_Array (a0.1, a1.2.2.2.1, ())) none fun d6 ↦
 bif decide (d6 ≥ 0) then
 optC
 (L_check_scope_expr_185_0_0
 (a1.2.2.2.2, (↑(List.length a1.2.2.2.2) : Int), 0, a0.1.1, a0.1.2.1, a0.1.2.2.1, a0.1.2.2.2, a0.2.1, a0.2.2.1, a0.2.2.2,
 a1.1, a1.2.1, a1.2.2.1, a1.2.2.2.1, a1.2.2.2.2, a0.1.1, a0.1.2.1, a0.1.2.2.1, a0.1.2.2.2, a0.2))
 none fun d7 ↦ Sum.elim (fun e8 ↦ some !decide (-1 ≥ 0)) (fun e8 ↦ some !decide (e8.1 ≥ 0)) d7
 else some false
 else some false
theorem raw_check_scope_expr (a0 : (Pg × Th)) (a1 : Xp) : evGX1 (cxU sp_check_scope_expr [lc_check_scope_expr_185_0] 40 (1048576 ^ 9)) keeps 8 94 ash_check_scope_expr (.dat .bool) ((a0, a1, ()) : ((Pg × Th) × (Xp × Unit))) = g_check_scope_expr a0 a1 := by kernel_rfl
noncomputable def GI_check_scope_expr (x : ((Pg × Th) × (Xp × Unit))) : Option Bool := g_check_scope_expr x.1 x.2.1
noncomputable def conI_check_scope_expr : List AV → Prog AV := conP true ash_check_scope_expr (.dat .bool) GI_check_scope_expr
theorem sndI_check_scope_expr : SoundA Tryz.prog 94 conI_check_scope_expr := conP_sound (evF1_sound (tabOk_of tab_ok) (cmpsOk_of tab_ok cmps_ok) mixed (inU sp_check_scope_expr [lc_check_scope_expr_185_0] 40 (1048576 ^ 9)) (hspL sp_check_scope_expr) keeps 8 94) true (by rfl) (by rfl) (fun x r e => (evGX1_eq _ _ _ _ _ _ _).trans ((raw_check_scope_expr x.1 x.2.1).trans e)) (.inl rfl)
end
noncomputable def it_check_scope_expr : Nat → {K : ((Pg × Th) × (Xp × Unit)) → Option Bool // SoundA Tryz.prog 94 (conP true ash_check_scope_expr (.dat .bool) K)}
  | 0 => ⟨fun _ => none, conP_none⟩
  | k + 1 => letI : Rec_check_scope_expr := ⟨(it_check_scope_expr k).1, (it_check_scope_expr k).2⟩; ⟨GI_check_scope_expr, sndI_check_scope_expr⟩
noncomputable def G_check_scope_expr (x : ((Pg × Th) × (Xp × Unit))) : Option Bool := (it_check_scope_expr (SizeOf.sizeOf x + 1)).1 x
noncomputable def con_check_scope_expr : List AV → Prog AV := conP true ash_check_scope_expr (.dat .bool) G_check_scope_expr
theorem snd_check_scope_expr : SoundA Tryz.prog 94 con_check_scope_expr := conP_pick (sh := ash_check_scope_expr) (rs := .dat .bool) (n := fun x : ((Pg × Th) × (Xp × Unit)) => SizeOf.sizeOf x + 1) (F := fun k => (it_check_scope_expr k).1) (fun k => (it_check_scope_expr k).2)
end Go.Proofs.YtmjbedjnojcmfaaGreatDoor.Ex

namespace Go.Proofs.YtmjbedjnojcmfaaGreatDoor.Ex
open Go.Proofs Go.Proofs.YtmjbedjnojcmfaaGreatDoor
set_option maxRecDepth 100000
set_option maxHeartbeats 2000000
set_option linter.unusedVariables false
set_option linter.unusedSimpArgs false
def ash_check_Mutex : List Sh := [.dat tPg, .dat .str]
noncomputable def sp_check_Mutex : List Con := [⟨35, con_check_place, snd_check_place⟩]
noncomputable def g_check_Mutex (a0 : Pg) (a1 : ByteArray) : Option Int :=
  optC (G_check_place (a1, a0.2.2.1, ())) none fun d3 ↦ some d3
theorem raw_check_Mutex (a0 : Pg) (a1 : ByteArray) : evGX (cxU sp_check_Mutex [] 40 1048576) keeps 8 17 ash_check_Mutex (.dat (.int .i64)) ((a0, a1, ()) : (Pg × (ByteArray × Unit))) = g_check_Mutex a0 a1 := by kernel_rfl
noncomputable def G_check_Mutex (x : (Pg × (ByteArray × Unit))) : Option Int := g_check_Mutex x.1 x.2.1
noncomputable def con_check_Mutex : List AV → Prog AV := conP false ash_check_Mutex (.dat (.int .i64)) G_check_Mutex
theorem snd_check_Mutex : SoundA Tryz.prog 17 con_check_Mutex := conP_sound (calU sp_check_Mutex [] 40 1048576 8 17) false (by rfl) (by rfl) (fun x r e => (evGX_eq _ _ _ _ _ _ _).trans ((raw_check_Mutex x.1 x.2.1).trans e)) (.inr fun _ => rfl)
end Go.Proofs.YtmjbedjnojcmfaaGreatDoor.Ex

namespace Go.Proofs.YtmjbedjnojcmfaaGreatDoor.Ex
open Go.Proofs Go.Proofs.YtmjbedjnojcmfaaGreatDoor
set_option maxRecDepth 100000
set_option maxHeartbeats 2000000
set_option linter.unusedVariables false
set_option linter.unusedSimpArgs false
def ash_check_scope_cond : List Sh := [.dat (.st (.pair tPg tTh)), .dat tCd]
def kp_check_scope_cond_185_0 : Nat → List Nat := fun c => bif c.beq 0 then [0, 1, 7, 8] else [4]
def kp_check_scope_cond_186_0 : Nat → List Nat := fun c => bif c.beq 0 then [0, 1, 7, 8] else [4]
class Rec_check_scope_cond where
  K : ((Pg × Th) × (Cd × Unit)) → Option Bool
  s : SoundA Tryz.prog 95 (conP true ash_check_scope_cond (.dat .bool) K)
section
variable [Rec_check_scope_cond]
noncomputable def sp_check_scope_cond : List Con := [⟨94, con_check_scope_expr, snd_check_scope_expr⟩, ⟨95, (conP true ash_check_scope_cond (.dat .bool) Rec_check_scope_cond.K), Rec_check_scope_cond.s⟩]
def s_check_scope_cond_185_0_0 : StS := ⟨[(0, .sl (.mu 0)), (1, .clo 163 [] [.ptr 2 0]), (7, .int .i64), (8, .int .i64)], [(2, .box [.clo 94 [.agg [.sl tGb, .sl tGb, .sl .str, .sl tTh, .str, .sl .str, .sl (.mu 2)]] []]), (1, .box [.int .i64, .int .i64, .sl (.mu 0), .sl (.mu 1)]), (0, .box [.sl tGb, .sl tGb, .sl .str, .sl tTh, .str, .sl .str, .sl (.mu 2)])], 3⟩
def x_check_scope_cond_185_0_0_0 : StS := ⟨[(4, .undef)], [(2, .box [.clo 94 [.agg [.sl tGb, .sl tGb, .sl .str, .sl tTh, .str, .sl .str, .sl (.mu 2)]] []]), (1, .box [.int .i64, .int .i64, .sl (.mu 0), .sl (.mu 1)]), (0, .box [.sl tGb, .sl tGb, .sl .str, .sl tTh, .str, .sl .str, .sl (.mu 2)])], 3⟩
def x_check_scope_cond_185_0_0_1 : StS := ⟨[(4, .int .i64)], [(2, .box [.clo 94 [.agg [.sl tGb, .sl tGb, .sl .str, .sl tTh, .str, .sl .str, .sl (.mu 2)]] []]), (1, .box [.int .i64, .int .i64, .sl (.mu 0), .sl (.mu 1)]), (0, .box [.sl tGb, .sl tGb, .sl .str, .sl tTh, .str, .sl .str, .sl (.mu 2)])], 3⟩
abbrev X_check_scope_cond_185_0_0 := ((List (RT.C 0)) × Int × Int × (List Gb) × (List Gb) × (List ByteArray) × (List Th) × ByteArray × (List ByteArray) × (List (RT.C 2)) × Int × Int × (List (RT.C 0)) × (List (RT.C 1)) × (List Gb) × (List Gb) × (List ByteArray) × (List Th) × ByteArray × (List ByteArray) × (List (RT.C 2)))
def fl_check_scope_cond_185_0_0 (d : StD s_check_scope_cond_185_0_0) : X_check_scope_cond_185_0_0 := (d.1.1, d.1.2.2.1, d.1.2.2.2.1, d.2.1.1.1.1.1, d.2.1.1.1.1.2.1, d.2.1.1.1.1.2.2.1, d.2.1.1.1.1.2.2.2.1, d.2.1.1.1.1.2.2.2.2.1, d.2.1.1.1.1.2.2.2.2.2.1, d.2.1.1.1.1.2.2.2.2.2.2.1, d.2.2.1.1, d.2.2.1.2.1, d.2.2.1.2.2.1, d.2.2.1.2.2.2.1, d.2.2.2.1.1, d.2.2.2.1.2.1, d.2.2.2.1.2.2.1, d.2.2.2.1.2.2.2.1, d.2.2.2.1.2.2.2.2.1, d.2.2.2.1.2.2.2.2.2.1, d.2.2.2.1.2.2.2.2.2.2.1)
def un_check_scope_cond_185_0_0 (x : X_check_scope_cond_185_0_0) : StD s_check_scope_cond_185_0_0 := ((x.1, ((), ((), ())), x.2.1, x.2.2.1, ()), (((((x.2.2.2.1, x.2.2.2.2.1, x.2.2.2.2.2.1, x.2.2.2.2.2.2.1, x.2.2.2.2.2.2.2.1, x.2.2.2.2.2.2.2.2.1, x.2.2.2.2.2.2.2.2.2.1, ()), ()), ()), ()), (x.2.2.2.2.2.2.2.2.2.2.1, x.2.2.2.2.2.2.2.2.2.2.2.1, x.2.2.2.2.2.2.2.2.2.2.2.2.1, x.2.2.2.2.2.2.2.2.2.2.2.2.2.1, ()), (x.2.2.2.2.2.2.2.2.2.2.2.2.2.2.1, x.2.2.2.2.2.2.2.2.2.2.2.2.2.2.2.1, x.2.2.2.2.2.2.2.2.2.2.2.2.2.2.2.2.1, x.2.2.2.2.2.2.2.2.2.2.2.2.2.2.2.2.2.1, x.2.2.2.2.2.2.2.2.2.2.2.2.2.2.2.2.2.2.1, x.2.2.2.2.2.2.2.2.2.2.2.2.2.2.2.2.2.2.2.1, x.2.2.2.2.2.2.2.2.2.2.2.2.2.2.2.2.2.2.2.2, ()), ()))
abbrev X_check_scope_cond_185_0_0_0 := ((List Gb) × (List Gb) × (List ByteArray) × (List Th) × ByteArray × (List ByteArray) × (List (RT.C 2)) × Int × Int × (List (RT.C 0)) × (List (RT.C 1)) × (List Gb) × (List Gb) × (List ByteArray) × (List Th) × ByteArray × (List ByteArray) × (List (RT.C 2)))
def fl_check_scope_cond_185_0_0_0 (d : StD x_check_scope_cond_185_0_0_0) : X_check_scope_cond_185_0_0_0 := (d.2.1.1.1.1.1, d.2.1.1.1.1.2.1, d.2.1.1.1.1.2.2.1, d.2.1.1.1.1.2.2.2.1, d.2.1.1.1.1.2.2.2.2.1, d.2.1.1.1.1.2.2.2.2.2.1, d.2.1.1.1.1.2.2.2.2.2.2.1, d.2.2.1.1, d.2.2.1.2.1, d.2.2.1.2.2.1, d.2.2.1.2.2.2.1, d.2.2.2.1.1, d.2.2.2.1.2.1, d.2.2.2.1.2.2.1, d.2.2.2.1.2.2.2.1, d.2.2.2.1.2.2.2.2.1, d.2.2.2.1.2.2.2.2.2.1, d.2.2.2.1.2.2.2.2.2.2.1)
def un_check_scope_cond_185_0_0_0 (x : X_check_scope_cond_185_0_0_0) : StD x_check_scope_cond_185_0_0_0 := (((), ()), (((((x.1, x.2.1, x.2.2.1, x.2.2.2.1, x.2.2.2.2.1, x.2.2.2.2.2.1, x.2.2.2.2.2.2.1, ()), ()), ()), ()), (x.2.2.2.2.2.2.2.1, x.2.2.2.2.2.2.2.2.1, x.2.2.2.2.2.2.2.2.2.1, x.2.2.2.2.2.2.2.2.2.2.1, ()), (x.2.2.2.2.2.2.2.2.2.2.2.1, x.2.2.2.2.2.2.2.2.2.2.2.2.1, x.2.2.2.2.2.2.2.2.2.2.2.2.2.1, x.2.2.2.2.2.2.2.2.2.2.2.2.2.2.1, x.2.2.2.2.2.2.2.2.2.2.2.2.2.2.2.1, x.2.2.2.2.2.2.2.2.2.2.2.2.2.2.2.2.1, x.2.2.2.2.2.2.2.2.2.2.2.2.2.2.2.2.2, ()), ()))
abbrev X_check_scope_cond_185_0_0_1 := (Int × (List Gb) × (List Gb) × (List ByteArray) × (List Th) × ByteArray × (List ByteArray) × (List (RT.C 2)) × Int × Int × (List (RT.C 0)) × (List (RT.C 1)) × (List Gb) × (List Gb) × (List ByteArray) × (List Th) × ByteArray × (List ByteArray) × (List (RT.C 2)))
def fl_check_scope_cond_185_0_0_1 (d : StD x_check_scope_cond_185_0_0_1) : X_check_scope_cond_185_0_0_1 := (d.1.1, d.2.1.1.1.1.1, d.2.1.1.1.1.2.1, d.2.1.1.1.1.2.2.1, d.2.1.1.1.1.2.2.2.1, d.2.1.1.1.1.2.2.2.2.1, d.2.1.1.1.1.2.2.2.2.2.1, d.2.1.1.1.1.2.2.2.2.2.2.1, d.2.2.1.1, d.2.2.1.2.1, d.2.2.1.2.2.1, d.2.2.1.2.2.2.1, d.2.2.2.1.1, d.2.2.2.1.2.1, d.2.2.2.1.2.2.1, d.2.2.2.1.2.2.2.1, d.2.2.2.1.2.2.2.2.1, d.2.2.2.1.2.2.2.2.2.1, d.2.2.2.1.2.2.2.2.2.2.1)
def un_check_scope_cond_185_0_0_1 (x : X_check_scope_cond_185_0_0_1) : StD x_check_scope_cond_185_0_0_1 := ((x.1, ()), (((((x.2.1, x.2.2.1, x.2.2.2.1, x.2.2.2.2.1, x.2.2.2.2.2.1, x.2.2.2.2.2.2.1, x.2.2.2.2.2.2.2.1, ()), ()), ()), ()), (x.2.2.2.2.2.2.2.2.1, x.2.2.2.2.2.2.2.2.2.1, x.2.2.2.2.2.2.2.2.2.2.1, x.2.2.2.2.2.2.2.2.2.2.2.1, ()), (x.2.2.2.2.2.2.2.2.2.2.2.2.1, x.2.2.2.2.2.2.2.2.2.2.2.2.2.1, x.2.2.2.2.2.2.2.2.2.2.2.2.2.2.1, x.2.2.2.2.2.2.2.2.2.2.2.2.2.2.2.1, x.2.2.2.2.2.2.2.2.2.2.2.2.2.2.2.2.1, x.2.2.2.2.2.2.2.2.2.2.2.2.2.2.2.2.2.1, x.2.2.2.2.2.2.2.2.2.2.2.2.2.2.2.2.2.2, ()), ()))
noncomputable def st_check_scope_cond_185_0_0 (s0 : (List (RT.C 0))) (s7 : Int) (s8 : Int) (b2 : (List Gb)) (b2_1 : (List Gb)) (b2_2 : (List ByteArray)) (b2_3 : (List Th)) (b2_4 : ByteArray) (b2_5 : (List ByteArray)) (b2_6 : (List (RT.C 2))) (b1 : Int) (b1_1 : Int) (b1_2 : (List (RT.C 0))) (b1_3 : (List (RT.C 1))) (b0 : (List Gb)) (b0_1 : (List Gb)) (b0_2 : (List ByteArray)) (b0_3 : (List Th)) (b0_4 : ByteArray) (b0_5 : (List ByteArray)) (b0_6 : (List (RT.C 2))) : Option (((List (RT.C 0)) × Int × Int × (List Gb) × (List Gb) × (List ByteArray) × (List Th) × ByteArray × (List ByteArray) × (List (RT.C 2)) × Int × Int × (List (RT.C 0)) × (List (RT.C 1)) × (List Gb) × (List Gb) × (List ByteArray) × (List Th) × ByteArray × (List ByteArray) × (List (RT.C 2))) ⊕ (((List Gb) × (List Gb) × (List ByteArray) × (List Th) × ByteArray × (List ByteArray) × (List (RT.C 2)) × Int × Int × (List (RT.C 0)) × (List (RT.C 1)) × (List Gb) × (List Gb) × (List ByteArray) × (List Th) × ByteArray × (List ByteArray) × (List (RT.C 2))) ⊕ (Int × (List Gb) × (List Gb) × (List ByteArray) × (List Th) × ByteArray × (List ByteArray) × (List (RT.C 2)) × Int × Int × (List (RT.C 0)) × (List (RT.C 1)) × (List Gb) × (List Gb) × (List ByteArray) × (List Th) × ByteArray × (List ByteArray) × (List (RT.C 2))))) :=
  bif decide (s8 < s7) then
 bif decide (0 ≤ s8) then
 optC s0[s8.toNat]? none fun d25 ↦
 optC (G_check_scope_expr (((b2, b2_1, b2_2, b2_3), b2_4, b2_5, b2_6), uT0 d25, ())) none fun d26 ↦
 bif !d26 then some (Sum.inr (Sum.inr (s8, b2, b2_1, b2_2, b2_3, b2_4, b2_5, b2_6, b1, b1_1, b1_2, b1_3, b0, b0_1, b0_2, b0_3, b0_4, b0_5, b0_6)))
 else some (Sum.inl (s0, s7, Go.IntKind.i64.wrap (s8 + 1), b2, b2_1, b2_2, b2_3, b2_4, b2_5, b2_6, b1, b1_1, b1_2, b1_3, b0, b0_1, b0_2, b0_3, b0_4, b0_5, b0_6))
 else none
 else some (Sum.inr (Sum.inl (b2, b2_1, b2_2, b2_3, b2_4, b2_5, b2_6, b1, b1_1, b1_2, b1_3, b0, b0_1, b0_2, b0_3, b0_4, b0_5, b0_6)))
noncomputable def sx_check_scope_cond_185_0_0 (x : X_check_scope_cond_185_0_0) : Option (X_check_scope_cond_185_0_0 ⊕ (X_check_scope_cond_185_0_0_0 ⊕ X_check_scope_cond_185_0_0_1)) := st_check_scope_cond_185_0_0 x.1 x.2.1 x.2.2.1 x.2.2.2.1 x.2.2.2.2.1 x.2.2.2.2.2.1 x.2.2.2.2.2.2.1 x.2.2.2.2.2.2.2.1 x.2.2.2.2.2.2.2.2.1 x.2.2.2.2.2.2.2.2.2.1 x.2.2.2.2.2.2.2.2.2.2.1 x.2.2.2.2.2.2.2.2.2.2.2.1 x.2.2.2.2.2.2.2.2.2.2.2.2.1 x.2.2.2.2.2.2.2.2.2.2.2.2.2.1 x.2.2.2.2.2.2.2.2.2.2.2.2.2.2.1 x.2.2.2.2.2.2.2.2.2.2.2.2.2.2.2.1 x.2.2.2.2.2.2.2.2.2.2.2.2.2.2.2.2.1 x.2.2.2.2.2.2.2.2.2.2.2.2.2.2.2.2.2.1 x.2.2.2.2.2.2.2.2.2.2.2.2.2.2.2.2.2.2.1 x.2.2.2.2.2.2.2.2.2.2.2.2.2.2.2.2.2.2.2.1 x.2.2.2.2.2.2.2.2.2.2.2.2.2.2.2.2.2.2.2.2
theorem rn_check_scope_cond_185_0_0 (x : X_check_scope_cond_185_0_0) : rdX (cxU sp_check_scope_cond [] 40 (1048576 ^ 9)) keeps 8 ⟨185, 19, keeps 185, 3⟩ 0 (bodyX 185 0) 3 kp_check_scope_cond_185_0 (sT s_check_scope_cond_185_0_0 (un_check_scope_cond_185_0_0 x)) (sH s_check_scope_cond_185_0_0 (un_check_scope_cond_185_0_0 x)) (rdO (fun T h => (rdS s_check_scope_cond_185_0_0 T h).map fl_check_scope_cond_185_0_0) (getOr (getE 2 x_check_scope_cond_185_0_0_0 fl_check_scope_cond_185_0_0_0) (getE 1 x_check_scope_cond_185_0_0_1 fl_check_scope_cond_185_0_0_1))) = sx_check_scope_cond_185_0_0 x := by kernel_rfl
noncomputable def L_check_scope_cond_185_0_0 (x : X_check_scope_cond_185_0_0) : Option (X_check_scope_cond_185_0_0_0 ⊕ X_check_scope_cond_185_0_0_1) := iterO (fun x => st_check_scope_cond_185_0_0 x.1 x.2.1 x.2.2.1 x.2.2.2.1 x.2.2.2.2.1 x.2.2.2.2.2.1 x.2.2.2.2.2.2.1 x.2.2.2.2.2.2.2.1 x.2.2.2.2.2.2.2.2.1 x.2.2.2.2.2.2.2.2.2.1 x.2.2.2.2.2.2.2.2.2.2.1 x.2.2.2.2.2.2.2.2.2.2.2.1 x.2.2.2.2.2.2.2.2.2.2.2.2.1 x.2.2.2.2.2.2.2.2.2.2.2.2.2.1 x.2.2.2.2.2.2.2.2.2.2.2.2.2.2.1 x.2.2.2.2.2.2.2.2.2.2.2.2.2.2.2.1 x.2.2.2.2.2.2.2.2.2.2.2.2.2.2.2.2.1 x.2.2.2.2.2.2.2.2.2.2.2.2.2.2.2.2.2.1 x.2.2.2.2.2.2.2.2.2.2.2.2.2.2.2.2.2.2.1 x.2.2.2.2.2.2.2.2.2.2.2.2.2.2.2.2.2.2.2.1 x.2.2.2.2.2.2.2.2.2.2.2.2.2.2.2.2.2.2.2.2) FUEL x
noncomputable def q_check_scope_cond_185_0 : Nat → Tm → Prog (Nat × Tm) := (varP 3 (fun T h => (rdS s_check_scope_cond_185_0_0 T h).map fl_check_scope_cond_185_0_0) L_check_scope_cond_185_0_0 (fun y => .alt y (altE 2 x_check_scope_cond_185_0_0_0 un_check_scope_cond_185_0_0_0) (altE 1 x_check_scope_cond_185_0_0_1 un_check_scope_cond_185_0_0_1)) (fun _ _ => .fail))
noncomputable def lc_check_scope_cond_185_0 : Lpc := ⟨185, 0, 19, (fun base T => .norm base (kp_check_scope_cond_185_0 0) T (q_check_scope_cond_185_0 base)), by kernel_rfl, by kernel_rfl, (loopU sp_check_scope_cond [] 40 (1048576 ^ 9) 8 (keep := kp_check_scope_cond_185_0) (q := q_check_scope_cond_185_0) (by kernel_rfl) (varX_ok (s := s_check_scope_cond_185_0_0) (un := un_check_scope_cond_185_0_0) (by rfl) (fun _ => rfl) (getOr_ok (getE_ok (s := x_check_scope_cond_185_0_0_0) (un := un_check_scope_cond_185_0_0_0) (by rfl) (fun _ => rfl)) (getE_ok (s := x_check_scope_cond_185_0_0_1) (un := un_check_scope_cond_185_0_0_1) (by rfl) (fun _ => rfl))) (step := sx_check_scope_cond_185_0_0) rn_check_scope_cond_185_0_0 (fun _ _ e => ⟨_, e⟩) (altOr_ok (altE_ok 2 x_check_scope_cond_185_0_0_0 un_check_scope_cond_185_0_0_0) (altE_ok 1 x_check_scope_cond_185_0_0_1 un_check_scope_cond_185_0_0_1)) (VarOk.fail _ _)))⟩
noncomputable abbrev cx_check_scope_cond_186_0 := cxU sp_check_scope_cond [lc_check_scope_cond_185_0] 40 (1048576 ^ 9)
def s_check_scope_cond_186_0_0 : StS := ⟨[(0, .sl (.mu 1)), (1, .clo 165 [] [.ptr 3 0]), (7, .int .i64), (8, .int .i64)], [(3, .box [.clo 95 [.agg [.sl tGb, .sl tGb, .sl .str, .sl tTh, .str, .sl .str, .sl (.mu 2)]] []]), (2, .box [.clo 94 [.agg [.sl tGb, .sl tGb, .sl .str, .sl tTh, .str, .sl .str, .sl (.mu 2)]] []]), (1, .box [.int .i64, .int .i64, .sl (.mu 0), .sl (.mu 1)]), (0, .box [.sl tGb, .sl tGb, .sl .str, .sl tTh, .str, .sl .str, .sl (.mu 2)])], 4⟩
def x_check_scope_cond_186_0_0_0 : StS := ⟨[(4, .undef)], [(3, .box [.clo 95 [.agg [.sl tGb, .sl tGb, .sl .str, .sl tTh, .str, .sl .str, .sl (.mu 2)]] []]), (2, .box [.clo 94 [.agg [.sl tGb, .sl tGb, .sl .str, .sl tTh, .str, .sl .str, .sl (.mu 2)]] []]), (1, .box [.int .i64, .int .i64, .sl (.mu 0), .sl (.mu 1)]), (0, .box [.sl tGb, .sl tGb, .sl .str, .sl tTh, .str, .sl .str, .sl (.mu 2)])], 4⟩
def x_check_scope_cond_186_0_0_1 : StS := ⟨[(4, .int .i64)], [(3, .box [.clo 95 [.agg [.sl tGb, .sl tGb, .sl .str, .sl tTh, .str, .sl .str, .sl (.mu 2)]] []]), (2, .box [.clo 94 [.agg [.sl tGb, .sl tGb, .sl .str, .sl tTh, .str, .sl .str, .sl (.mu 2)]] []]), (1, .box [.int .i64, .int .i64, .sl (.mu 0), .sl (.mu 1)]), (0, .box [.sl tGb, .sl tGb, .sl .str, .sl tTh, .str, .sl .str, .sl (.mu 2)])], 4⟩
abbrev X_check_scope_cond_186_0_0 := ((List (RT.C 1)) × Int × Int × (List Gb) × (List Gb) × (List ByteArray) × (List Th) × ByteArray × (List ByteArray) × (List (RT.C 2)) × (List Gb) × (List Gb) × (List ByteArray) × (List Th) × ByteArray × (List ByteArray) × (List (RT.C 2)) × Int × Int × (List (RT.C 0)) × (List (RT.C 1)) × (List Gb) × (List Gb) × (List ByteArray) × (List Th) × ByteArray × (List ByteArray) × (List (RT.C 2)))
def fl_check_scope_cond_186_0_0 (d : StD s_check_scope_cond_186_0_0) : X_check_scope_cond_186_0_0 := (d.1.1, d.1.2.2.1, d.1.2.2.2.1, d.2.1.1.1.1.1, d.2.1.1.1.1.2.1, d.2.1.1.1.1.2.2.1, d.2.1.1.1.1.2.2.2.1, d.2.1.1.1.1.2.2.2.2.1, d.2.1.1.1.1.2.2.2.2.2.1, d.2.1.1.1.1.2.2.2.2.2.2.1, d.2.2.1.1.1.1.1, d.2.2.1.1.1.1.2.1, d.2.2.1.1.1.1.2.2.1, d.2.2.1.1.1.1.2.2.2.1, d.2.2.1.1.1.1.2.2.2.2.1, d.2.2.1.1.1.1.2.2.2.2.2.1, d.2.2.1.1.1.1.2.2.2.2.2.2.1, d.2.2.2.1.1, d.2.2.2.1.2.1, d.2.2.2.1.2.2.1, d.2.2.2.1.2.2.2.1, d.2.2.2.2.1.1, d.2.2.2.2.1.2.1, d.2.2.2.2.1.2.2.1, d.2.2.2.2.1.2.2.2.1, d.2.2.2.2.1.2.2.2.2.1, d.2.2.2.2.1.2.2.2.2.2.1, d.2.2.2.2.1.2.2.2.2.2.2.1)
def un_check_scope_cond_186_0_0 (x : X_check_scope_cond_186_0_0) : StD s_check_scope_cond_186_0_0 := ((x.1, ((), ((), ())), x.2.1, x.2.2.1, ()), (((((x.2.2.2.1, x.2.2.2.2.1, x.2.2.2.2.2.1, x.2.2.2.2.2.2.1, x.2.2.2.2.2.2.2.1, x.2.2.2.2.2.2.2.2.1, x.2.2.2.2.2.2.2.2.2.1, ()), ()), ()), ()), ((((x.2.2.2.2.2.2.2.2.2.2.1, x.2.2.2.2.2.2.2.2.2.2.2.1, x.2.2.2.2.2.2.2.2.2.2.2.2.1, x.2.2.2.2.2.2.2.2.2.2.2.2.2.1, x.2.2.2.2.2.2.2.2.2.2.2.2.2.2.1, x.2.2.2.2.2.2.2.2.2.2.2.2.2.2.2.1, x.2.2.2.2.2.2.2.2.2.2.2.2.2.2.2.2.1, ()), ()), ()), ()), (x.2.2.2.2.2.2.2.2.2.2.2.2.2.2.2.2.2.1, x.2.2.2.2.2.2.2.2.2.2.2.2.2.2.2.2.2.2.1, x.2.2.2.2.2.2.2.2.2.2.2.2.2.2.2.2.2.2.2.1, x.2.2.2.2.2.2.2.2.2.2.2.2.2.2.2.2.2.2.2.2.1, ()), (x.2.2.2.2.2.2.2.2.2.2.2.2.2.2.2.2.2.2.2.2.2.1, x.2.2.2.2.2.2.2.2.2.2.2.2.2.2.2.2.2.2.2.2.2.2.1, x.2.2.2.2.2.2.2.2.2.2.2.2.2.2.2.2.2.2.2.2.2.2.2.1, x.2.2.2.2.2.2.2.2.2.2.2.2.2.2.2.2.2.2.2.2.2.2.2.2.1, x.2.2.2.2.2.2.2.2.2.2.2.2.2.2.2.2.2.2.2.2.2.2.2.2.2.1, x.2.2.2.2.2.2.2.2.2.2.2.2.2.2.2.2.2.2.2.2.2.2.2.2.2.2.1, x.2.2.2.2.2.2.2.2.2.2.2.2.2.2.2.2.2.2.2.2.2.2.2.2.2.2.2, ()), ()))
abbrev X_check_scope_cond_186_0_0_0 := ((List Gb) × (List Gb) × (List ByteArray) × (List Th) × ByteArray × (List ByteArray) × (List (RT.C 2)) × (List Gb) × (List Gb) × (List ByteArray) × (List Th) × ByteArray × (List ByteArray) × (List (RT.C 2)) × Int × Int × (List (RT.C 0)) × (List (RT.C 1)) × (List Gb) × (List Gb) × (List ByteArray) × (List Th) × ByteArray × (List ByteArray) × (List (RT.C 2)))
def fl_check_scope_cond_186_0_0_0 (d : StD x_check_scope_cond_186_0_0_0) : X_check_scope_cond_186_0_0_0 := (d.2.1.1.1.1.1, d.2.1.1.1.1.2.1, d.2.1.1.1.1.2.2.1, d.2.1.1.1.1.2.2.2.1, d.2.1.1.1.1.2.2.2.2.1, d.2.1.1.1.1.2.2.2.2.2.1, d.2.1.1.1.1.2.2.2.2.2.2.1, d.2.2.1.1.1.1.1, d.2.2.1.1.1.1.2.1, d.2.2.1.1.1.1.2.2.1, d.2.2.1.1.1.1.2.2.2.1, d.2.2.1.1.1.1.2.2.2.2.1, d.2.2.1.1.1.1.2.2.2.2.2.1, d.2.2.1.1.1.1.2.2.2.2.2.2.1, d.2.2.2.1.1, d.2.2.2.1.2.1, d.2.2.2.1.2.2.1, d.2.2.2.1.2.2.2.1, d.2.2.2.2.1.1, d.2.2.2.2.1.2.1, d.2.2.2.2.1.2.2.1, d.2.2.2.2.1.2.2.2.1, d.2.2.2.2.1.2.2.2.2.1, d.2.2.2.2.1.2.2.2.2.2.1, d.2.2.2.2.1.2.2.2.2.2.2.1)
def un_check_scope_cond_186_0_0_0 (x : X_check_scope_cond_186_0_0_0) : StD x_check_scope_cond_186_0_0_0 := (((), ()), (((((x.1, x.2.1, x.2.2.1, x.2.2.2.1, x.2.2.2.2.1, x.2.2.2.2.2.1, x.2.2.2.2.2.2.1, ()), ()), ()), ()), ((((x.2.2.2.2.2.2.2.1, x.2.2.2.2.2.2.2.2.1, x.2.2.2.2.2.2.2.2.2.1, x.2.2.2.2.2.2.2.2.2.2.1, x.2.2.2.2.2.2.2.2.2.2.2.1, x.2.2.2.2.2.2.2.2.2.2.2.2.1, x.2.2.2.2.2.2.2.2.2.2.2.2.2.1, ()), ()), ()), ()), (x.2.2.2.2.2.2.2.2.2.2.2.2.2.2.1, x.2.2.2.2.2.2.2.2.2.2.2.2.2.2.2.1, x.2.2.2.2.2.2.2.2.2.2.2.2.2.2.2.2.1, x.2.2.2.2.2.2.2.2.2.2.2.2.2.2.2.2.2.1, ()), (x.2.2.2.2.2.2.2.2.2.2.2.2.2.2.2.2.2.2.1, x.2.2.2.2.2.2.2.2.2.2.2.2.2.2.2.2.2.2.2.1, x.2.2.2.2.2.2.2.2.2.2.2.2.2.2.2.2.2.2.2.2.1, x.2.2.2.2.2.2.2.2.2.2.2.2.2.2.2.2.2.2.2.2.2.1, x.2.2.2.2.2.2.2.2.2.2.2.2.2.2.2.2.2.2.2.2.2.2.1, x.2.2.2.2.2.2.2.2.2.2.2.2.2.2.2.2.2.2.2.2.2.2.2.1, x.2.2.2.2.2.2.2.2.2.2.2.2.2.2.2.2.2.2.2.2.2.2.2.2, ()), ()))
abbrev X_check_scope_cond_186_0_0_1 := (Int × (List Gb) × (List Gb) × (List ByteArray) × (List Th) × ByteArray × (List ByteArray) × (List (RT.C 2)) × (List Gb) × (List Gb) × (List ByteArray) × (List Th) × ByteArray × (List ByteArray) × (List (RT.C 2)) × Int × Int × (List (RT.C 0)) × (List (RT.C 1)) × (List Gb) × (List Gb) × (List ByteArray) × (List Th) × ByteArray × (List ByteArray) × (List (RT.C 2)))
def fl_check_scope_cond_186_0_0_1 (d : StD x_check_scope_cond_186_0_0_1) : X_check_scope_cond_186_0_0_1 := (d.1.1, d.2.1.1.1.1.1, d.2.1.1.1.1.2.1, d.2.1.1.1.1.2.2.1, d.2.1.1.1.1.2.2.2.1, d.2.1.1.1.1.2.2.2.2.1, d.2.1.1.1.1.2.2.2.2.2.1, d.2.1.1.1.1.2.2.2.2.2.2.1, d.2.2.1.1.1.1.1, d.2.2.1.1.1.1.2.1, d.2.2.1.1.1.1.2.2.1, d.2.2.1.1.1.1.2.2.2.1, d.2.2.1.1.1.1.2.2.2.2.1, d.2.2.1.1.1.1.2.2.2.2.2.1, d.2.2.1.1.1.1.2.2.2.2.2.2.1, d.2.2.2.1.1, d.2.2.2.1.2.1, d.2.2.2.1.2.2.1, d.2.2.2.1.2.2.2.1, d.2.2.2.2.1.1, d.2.2.2.2.1.2.1, d.2.2.2.2.1.2.2.1, d.2.2.2.2.1.2.2.2.1, d.2.2.2.2.1.2.2.2.2.1, d.2.2.2.2.1.2.2.2.2.2.1, d.2.2.2.2.1.2.2.2.2.2.2.1)
def un_check_scope_cond_186_0_0_1 (x : X_check_scope_cond_186_0_0_1) : StD x_check_scope_cond_186_0_0_1 := ((x.1, ()), (((((x.2.1, x.2.2.1, x.2.2.2.1, x.2.2.2.2.1, x.2.2.2.2.2.1, x.2.2.2.2.2.2.1, x.2.2.2.2.2.2.2.1, ()), ()), ()), ()), ((((x.2.2.2.2.2.2.2.2.1, x.2.2.2.2.2.2.2.2.2.1, x.2.2.2.2.2.2.2.2.2.2.1, x.2.2.2.2.2.2.2.2.2.2.2.1, x.2.2.2.2.2.2.2.2.2.2.2.2.1, x.2.2.2.2.2.2.2.2.2.2.2.2.2.1, x.2.2.2.2.2.2.2.2.2.2.2.2.2.2.1, ()), ()), ()), ()), (x.2.2.2.2.2.2.2.2.2.2.2.2.2.2.2.1, x.2.2.2.2.2.2.2.2.2.2.2.2.2.2.2.2.1, x.2.2.2.2.2.2.2.2.2.2.2.2.2.2.2.2.2.1, x.2.2.2.2.2.2.2.2.2.2.2.2.2.2.2.2.2.2.1, ()), (x.2.2.2.2.2.2.2.2.2.2.2.2.2.2.2.2.2.2.2.1, x.2.2.2.2.2.2.2.2.2.2.2.2.2.2.2.2.2.2.2.2.1, x.2.2.2.2.2.2.2.2.2.2.2.2.2.2.2.2.2.2.2.2.2.1, x.2.2.2.2.2.2.2.2.2.2.2.2.2.2.2.2.2.2.2.2.2.2.1, x.2.2.2.2.2.2.2.2.2.2.2.2.2.2.2.2.2.2.2.2.2.2.2.1, x.2.2.2.2.2.2.2.2.2.2.2.2.2.2.2.2.2.2.2.2.2.2.2.2.1, x.2.2.2.2.2.2.2.2.2.2.2.2.2.2.2.2.2.2.2.2.2.2.2.2.2, ()), ()))
noncomputable def st_check_scope_cond_186_0_0 (s0 : (List (RT.C 1))) (s7 : Int) (s8 : Int) (b3 : (List Gb)) (b3_1 : (List Gb)) (b3_2 : (List ByteArray)) (b3_3 : (List Th)) (b3_4 : ByteArray) (b3_5 : (List ByteArray)) (b3_6 : (List (RT.C 2))) (b2 : (List Gb)) (b2_1 : (List Gb)) (b2_2 : (List ByteArray)) (b2_3 : (List Th)) (b2_4 : ByteArray) (b2_5 : (List ByteArray)) (b2_6 : (List (RT.C 2))) (b1 : Int) (b1_1 : Int) (b1_2 : (List (RT.C 0))) (b1_3 : (List (RT.C 1))) (b0 : (List Gb)) (b0_1 : (List Gb)) (b0_2 : (List ByteArray)) (b0_3 : (List Th)) (b0_4 : ByteArray) (b0_5 : (List ByteArray)) (b0_6 : (List (RT.C 2))) : Option (((List (RT.C 1)) × Int × Int × (List Gb) × (List Gb) × (List ByteArray) × (List Th) × ByteArray × (List ByteArray) × (List (RT.C 2)) × (List Gb) × (List Gb) × (List ByteArray) × (List Th) × ByteArray × (List ByteArray) × (List (RT.C 2)) × Int × Int × (List (RT.C 0)) × (List (RT.C 1)) × (List Gb) × (List Gb) × (List ByteArray) × (List Th) × ByteArray × (List ByteArray) × (List (RT.C 2))) ⊕ (((List Gb) × (List Gb) × (List ByteArray) × (List Th) × ByteArray × (List ByteArray) × (List (RT.C 2)) × (List Gb) × (List Gb) × (List ByteArray) × (List Th) × ByteArray × (List ByteArray) × (List (RT.C 2)) × Int × Int × (List (RT.C 0)) × (List (RT.C 1)) × (List Gb) × (List Gb) × (List ByteArray) × (List Th) × ByteArray × (List ByteArray) × (List (RT.C 2))) ⊕ (Int × (List Gb) × (List Gb) × (List ByteArray) × (List Th) × ByteArray × (List ByteArray) × (List (RT.C 2)) × (List Gb) × (List Gb) × (List ByteArray) × (List Th) × ByteArray × (List ByteArray) × (List (RT.C 2)) × Int × Int × (List (RT.C 0)) × (List (RT.C 1)) × (List Gb) × (List Gb) × (List ByteArray) × (List Th) × ByteArray × (List ByteArray) × (List (RT.C 2))))) :=
  bif decide (s8 < s7) then
 bif decide (0 ≤ s8) then
 optC s0[s8.toNat]? none fun d32 ↦
 optC (Rec_check_scope_cond.K (((b3, b3_1, b3_2, b3_3), b3_4, b3_5, b3_6), uT1 d32, ())) none fun d33 ↦
 bif !d33 then some (Sum.inr (Sum.inr (s8, b3, b3_1, b3_2, b3_3, b3_4, b3_5, b3_6, b2, b2_1, b2_2, b2_3, b2_4, b2_5, b2_6, b1, b1_1, b1_2, b1_3, b0, b0_1, b0_2, b0_3, b0_4, b0_5, b0_6)))
 else
 some
 (Sum.inl
 (s0, s7, Go.IntKind.i64.wrap (s8 + 1), b3, b3_1, b3_2, b3_3, b3_4, b3_5, b3_6, b2, b2_1, b2_2, b2_3, b2_4, b2_5, b2_6, b1, b1_1, b1_2, b1_3, b0, b0_1, b0_2, b0_3, b0_4, b0_5, b0_6))
 else none
 else some (Sum.inr (Sum.inl (b3, b3_1, b3_2, b3_3, b3_4, b3_5, b3_6, b2, b2_1, b2_2, b2_3, b2_4, b2_5, b2_6, b1, b1_1, b1_2, b1_3, b0, b0_1, b0_2, b0_3, b0_4, b0_5, b0_6)))
noncomputable def sx_check_scope_cond_186_0_0 (x : X_check_scope_cond_186_0_0) : Option (X_check_scope_cond_186_0_0 ⊕ (X_check_scope_cond_186_0_0_0 ⊕ X_check_scope_cond_186_0_0_1)) := st_check_scope_cond_186_0_0 x.1 x.2.1 x.2.2.1 x.2.2.2.1 x.2.2.2.2.1 x.2.2.2.2.2.1 x.2.2.2.2.2.2.1 x.2.2.2.2.2.2.2.1 x.2.2.2.2.2.2.2.2.1 x.2.2.2.2.2.2.2.2.2.1 x.2.2.2.2.2.2.2.2.2.2.1 x.2.2.2.2.2.2.2.2.2.2.2.1 x.2.2.2.2.2.2.2.2.2.2.2.2.1 x.2.2.2.2.2.2.2.2.2.2.2.2.2.1 x.2.2.2.2.2.2.2.2.2.2.2.2.2.2.1 x.2.2.2.2.2.2.2.2.2.2.2.2.2.2.2.1 x.2.2.2.2.2.2.2.2.2.2.2.2.2.2.2.2.1 x.2.2.2.2.2.2.2.2.2.2.2.2.2.2.2.2.2.1 x.2.2.2.2.2.2.2.2.2.2.2.2.2.2.2.2.2.2.1 x.2.2.2.2.2.2.2.2.2.2.2.2.2.2.2.2.2.2.2.1 x.2.2.2.2.2.2.2.2.2.2.2.2.2.2.2.2.2.2.2.2.1 x.2.2.2.2.2.2.2.2.2.2.2.2.2.2.2.2.2.2.2.2.2.1 x.2.2.2.2.2.2.2.2.2.2.2.2.2.2.2.2.2.2.2.2.2.2.1 x.2.2.2.2.2.2.2.2.2.2.2.2.2.2.2.2.2.2.2.2.2.2.2.1 x.2.2.2.2.2.2.2.2.2.2.2.2.2.2.2.2.2.2.2.2.2.2.2.2.1 x.2.2.2.2.2.2.2.2.2.2.2.2.2.2.2.2.2.2.2.2.2.2.2.2.2.1 x.2.2.2.2.2.2.2.2.2.2.2.2.2.2.2.2.2.2.2.2.2.2.2.2.2.2.1 x.2.2.2.2.2.2.2.2.2.2.2.2.2.2.2.2.2.2.2.2.2.2.2.2.2.2.2
theorem rn_check_scope_cond_186_0_0 (x : X_check_scope_cond_186_0_0) : rdX cx_check_scope_cond_186_0 keeps 8 ⟨186, 19, keeps 186, 4⟩ 0 (bodyX 186 0) 4 kp_check_scope_cond_186_0 (sT s_check_scope_cond_186_0_0 (un_check_scope_cond_186_0_0 x)) (sH s_check_scope_cond_186_0_0 (un_check_scope_cond_186_0_0 x)) (rdO (fun T h => (rdS s_check_scope_cond_186_0_0 T h).map fl_check_scope_cond_186_0_0) (getOr (getE 2 x_check_scope_cond_186_0_0_0 fl_check_scope_cond_186_0_0_0) (getE 1 x_check_scope_cond_186_0_0_1 fl_check_scope_cond_186_0_0_1))) = sx_check_scope_cond_186_0_0 x := by kernel_rfl
noncomputable def L_check_scope_cond_186_0_0 (x : X_check_scope_cond_186_0_0) : Option (X_check_scope_cond_186_0_0_0 ⊕ X_check_scope_cond_186_0_0_1) := iterO (fun x => st_check_scope_cond_186_0_0 x.1 x.2.1 x.2.2.1 x.2.2.2.1 x.2.2.2.2.1 x.2.2.2.2.2.1 x.2.2.2.2.2.2.1 x.2.2.2.2.2.2.2.1 x.2.2.2.2.2.2.2.2.1 x.2.2.2.2.2.2.2.2.2.1 x.2.2.2.2.2.2.2.2.2.2.1 x.2.2.2.2.2.2.2.2.2.2.2.1 x.2.2.2.2.2.2.2.2.2.2.2.2.1 x.2.2.2.2.2.2.2.2.2.2.2.2.2.1 x.2.2.2.2.2.2.2.2.2.2.2.2.2.2.1 x.2.2.2.2.2.2.2.2.2.2.2.2.2.2.2.1 x.2.2.2.2.2.2.2.2.2.2.2.2.2.2.2.2.1 x.2.2.2.2.2.2.2.2.2.2.2.2.2.2.2.2.2.1 x.2.2.2.2.2.2.2.2.2.2.2.2.2.2.2.2.2.2.1 x.2.2.2.2.2.2.2.2.2.2.2.2.2.2.2.2.2.2.2.1 x.2.2.2.2.2.2.2.2.2.2.2.2.2.2.2.2.2.2.2.2.1 x.2.2.2.2.2.2.2.2.2.2.2.2.2.2.2.2.2.2.2.2.2.1 x.2.2.2.2.2.2.2.2.2.2.2.2.2.2.2.2.2.2.2.2.2.2.1 x.2.2.2.2.2.2.2.2.2.2.2.2.2.2.2.2.2.2.2.2.2.2.2.1 x.2.2.2.2.2.2.2.2.2.2.2.2.2.2.2.2.2.2.2.2.2.2.2.2.1 x.2.2.2.2.2.2.2.2.2.2.2.2.2.2.2.2.2.2.2.2.2.2.2.2.2.1 x.2.2.2.2.2.2.2.2.2.2.2.2.2.2.2.2.2.2.2.2.2.2.2.2.2.2.1 x.2.2.2.2.2.2.2.2.2.2.2.2.2.2.2.2.2.2.2.2.2.2.2.2.2.2.2) FUEL x
noncomputable def q_check_scope_cond_186_0 : Nat → Tm → Prog (Nat × Tm) := (varP 4 (fun T h => (rdS s_check_scope_cond_186_0_0 T h).map fl_check_scope_cond_186_0_0) L_check_scope_cond_186_0_0 (fun y => .alt y (altE 2 x_check_scope_cond_186_0_0_0 un_check_scope_cond_186_0_0_0) (altE 1 x_check_scope_cond_186_0_0_1 un_check_scope_cond_186_0_0_1)) (fun _ _ => .fail))
noncomputable def lc_check_scope_cond_186_0 : Lpc := ⟨186, 0, 19, (fun base T => .norm base (kp_check_scope_cond_186_0 0) T (q_check_scope_cond_186_0 base)), by kernel_rfl, by kernel_rfl, (loopU sp_check_scope_cond [lc_check_scope_cond_185_0] 40 (1048576 ^ 9) 8 (keep := kp_check_scope_cond_186_0) (q := q_check_scope_cond_186_0) (by kernel_rfl) (varX_ok (s := s_check_scope_cond_186_0_0) (un := un_check_scope_cond_186_0_0) (by rfl) (fun _ => rfl) (getOr_ok (getE_ok (s := x_check_scope_cond_186_0_0_0) (un := un_check_scope_cond_186_0_0_0) (by rfl) (fun _ => rfl)) (getE_ok (s := x_check_scope_cond_186_0_0_1) (un := un_check_scope_cond_186_0_0_1) (by rfl) (fun _ => rfl))) (step := sx_check_scope_cond_186_0_0) rn_check_scope_cond_186_0_0 (fun _ _ e => ⟨_, e⟩) (altOr_ok (altE_ok 2 x_check_scope_cond_186_0_0_0 un_check_scope_cond_186_0_0_0) (altE_ok 1 x_check_scope_cond_186_0_0_1 un_check_scope_cond_186_0_0_1)) (VarOk.fail _ _)))⟩
noncomputable def g_check_scope_cond (a0 : (Pg × Th)) (a1 : Cd) : Option Bool :=
  optC
 (L_check_scope_cond_185_0_0
 (a1.2.2.1, (↑(List.length a1.2.2.1) : Int), 0, a0.1.1, a0.1.2.1, a0.1.2.2.1, a0.1.2.2.2, a0.2.1, a0.2.2.1, a0.2.2.2, a1.1, a1.2.1,
 a1.2.2.1, a1.2.2.2, a0.1.1, a0.1.2.1, a0.1.2.2.1, a0.1.2.2.2, a0.2))
 none fun d6 ↦
 Sum.elim
 (fun e7 ↦
 optC
 (L_check_scope_cond_186_0_0
 (e7.2.2.2.2.2.2.2.2.2.2.1, (↑e7.2.2.2.2.2.2.2.2.2.2.1.length : Int), 0, e7.2.2.2.2.2.2.2.2.2.2.2.1,
 e7.2.2.2.2.2.2.2.2.2.2.2.2.1, e7.2.2.2.2.2.2.2.2.2.2.2.2.2.1, e7.2.2.2.2.2.2.2.2.2.2.2.2.2.2.1,
 e7.2.2.2.2.2.2.2.2.2.2.2.2.2.2.2.1, e7.2.2.2.2.2.2.2.2.2.2.2.2.2.2.2.2.1,
 e7.2.2.2.2.2.2.2.2.2.2.2.2.2.2.2.2.2, e7))
 none fun d8 ↦ Sum.elim (fun e9 ↦ some !decide (-1 ≥ 0)) (fun e9 ↦ some !decide (e9.1 ≥ 0)) d8)
 (fun e7 ↦
 bif !decide (e7.1 ≥ 0) then
 optC
 (L_check_scope_cond_186_0_0
 (e7.2.2.2.2.2.2.2.2.2.2.2.1, (↑e7.2.2.2.2.2.2.2.2.2.2.2.1.length : Int), 0, e7.2.2.2.2.2.2.2.2.2.2.2.2.1,
 e7.2.2.2.2.2.2.2.2.2.2.2.2.2.1, e7.2.2.2.2.2.2.2.2.2.2.2.2.2.2.1,
 e7.2.2.2.2.2.2.2.2.2.2.2.2.2.2.2.1, e7.2.2.2.2.2.2.2.2.2.2.2.2.2.2.2.2.1,
 e7.2.2.2.2.2.2.2.2.2.2.2.2.2.2.2.2.2.1, e7.2.2.2.2.2.2.2.2.2.2.2.2.2.2.2.2.2.2, e7.2))
 none fun d8 ↦ Sum.elim (fun e9 ↦ some !decide (-1 ≥ 0)) (fun e9 ↦ some !decide (e9.1 ≥ 0)) d8
 else some false)
 d6
theorem raw_check_scope_cond (a0 : (Pg × Th)) (a1 : Cd) : evGX1 (cxU sp_check_scope_cond [lc_check_scope_cond_185_0, lc_check_scope_cond_186_0] 40 (1048576 ^ 9)) keeps 8 95 ash_check_scope_cond (.dat .bool) ((a0, a1, ()) : ((Pg × Th) × (Cd × Unit))) = g_check_scope_cond a0 a1 := by kernel_rfl
noncomputable def GI_check_scope_cond (x : ((Pg × Th) × (Cd × Unit))) : Option Bool := g_check_scope_cond x.1 x.2.1
noncomputable def conI_check_scope_cond : List AV → Prog AV := conP true ash_check_scope_cond (.dat .bool) GI_check_scope_cond
theorem sndI_check_scope_cond : SoundA Tryz.prog 95 conI_check_scope_cond := conP_sound (evF1_sound (tabOk_of tab_ok) (cmpsOk_of tab_ok cmps_ok) mixed (inU sp_check_scope_cond [lc_check_scope_cond_185_0, lc_check_scope_cond_186_0] 40 (1048576 ^ 9)) (hspL sp_check_scope_cond) keeps 8 95) true (by rfl) (by rfl) (fun x r e => (evGX1_eq _ _ _ _ _ _ _).trans ((raw_check_scope_cond x.1 x.2.1).trans e)) (.inl rfl)
end
noncomputable def it_check_scope_cond : Nat → {K : ((Pg × Th) × (Cd × Unit)) → Option Bool // SoundA Tryz.prog 95 (conP true ash_check_scope_cond (.dat .bool) K)}
  | 0 => ⟨fun _ => none, conP_none⟩
  | k + 1 => letI : Rec_check_scope_cond := ⟨(it_check_scope_cond k).1, (it_check_scope_cond k).2⟩; ⟨GI_check_scope_cond, sndI_check_scope_cond⟩
noncomputable def G_check_scope_cond (x : ((Pg × Th) × (Cd × Unit))) : Option Bool := (it_check_scope_cond (SizeOf.sizeOf x + 1)).1 x
noncomputable def con_check_scope_cond : List AV → Prog AV := conP true ash_check_scope_cond (.dat .bool) G_check_scope_cond
theorem snd_check_scope_cond : SoundA Tryz.prog 95 con_check_scope_cond := conP_pick (sh := ash_check_scope_cond) (rs := .dat .bool) (n := fun x : ((Pg × Th) × (Cd × Unit)) => SizeOf.sizeOf x + 1) (F := fun k => (it_check_scope_cond k).1) (fun k => (it_check_scope_cond k).2)
end Go.Proofs.YtmjbedjnojcmfaaGreatDoor.Ex

namespace Go.Proofs.YtmjbedjnojcmfaaGreatDoor.Ex
open Go.Proofs Go.Proofs.YtmjbedjnojcmfaaGreatDoor
set_option maxRecDepth 100000
set_option maxHeartbeats 2000000
set_option linter.unusedVariables false
set_option linter.unusedSimpArgs false
def ash_check_scope_stmt : List Sh := [.dat (.st (.pair tPg tTh)), .dat tSm]
def kp_check_scope_stmt_125_0 : Nat → List Nat := fun c => bif c.beq 0 then [0, 1, 7, 8] else [4]
class Rec_check_scope_stmt where
  K : ((Pg × Th) × (Stm × Unit)) → Option Bool
  s : SoundA Tryz.prog 43 (conP true ash_check_scope_stmt (.dat .bool) K)
section
variable [Rec_check_scope_stmt]
noncomputable def sp_check_scope_stmt : List Con := [⟨93, con_check_scope_isVar, snd_check_scope_isVar⟩, ⟨94, con_check_scope_expr, snd_check_scope_expr⟩, ⟨15, con_check_Array, snd_check_Array⟩, ⟨17, con_check_Mutex, snd_check_Mutex⟩, ⟨95, con_check_scope_cond, snd_check_scope_cond⟩, ⟨43, (conP true ash_check_scope_stmt (.dat .bool) Rec_check_scope_stmt.K), Rec_check_scope_stmt.s⟩]
def s_check_scope_stmt_125_0_1 : StS := ⟨[(0, .sl (.mu 2)), (1, .clo 92 [] [.ptr 3 0]), (7, .int .i64), (8, .int .i64)], [(3, .box [.clo 43 [.agg [.sl tGb, .sl tGb, .sl .str, .sl tTh, .str, .sl .str, .sl (.mu 2)]] []]), (2, .box [.clo 43 [.agg [.sl tGb, .sl tGb, .sl .str, .sl tTh, .str, .sl .str, .sl (.mu 2)]] []]), (1, .box [.int .i64, .str, .int .i64, .int .i64, .int .i64, .str, .sl (.mu 0), .int .i64, .int .i64, .int .i64, .str, .sl (.mu 0), .int .i64, .int .i64, .sl (.mu 0), .sl (.mu 1), .sl (.mu 2), .sl (.mu 2)]), (0, .box [.sl tGb, .sl tGb, .sl .str, .sl tTh, .str, .sl .str, .sl (.mu 2)])], 4⟩
def x_check_scope_stmt_125_0_1_0 : StS := ⟨[(4, .undef)], [(3, .box [.clo 43 [.agg [.sl tGb, .sl tGb, .sl .str, .sl tTh, .str, .sl .str, .sl (.mu 2)]] []]), (2, .box [.clo 43 [.agg [.sl tGb, .sl tGb, .sl .str, .sl tTh, .str, .sl .str, .sl (.mu 2)]] []]), (1, .box [.int .i64, .str, .int .i64, .int .i64, .int .i64, .str, .sl (.mu 0), .int .i64, .int .i64, .int .i64, .str, .sl (.mu 0), .int .i64, .int .i64, .sl (.mu 0), .sl (.mu 1), .sl (.mu 2), .sl (.mu 2)]), (0, .box [.sl tGb, .sl tGb, .sl .str, .sl tTh, .str, .sl .str, .sl (.mu 2)])], 4⟩
def x_check_scope_stmt_125_0_1_1 : StS := ⟨[(4, .int .i64)], [(3, .box [.clo 43 [.agg [.sl tGb, .sl tGb, .sl .str, .sl tTh, .str, .sl .str, .sl (.mu 2)]] []]), (2, .box [.clo 43 [.agg [.sl tGb, .sl tGb, .sl .str, .sl tTh, .str, .sl .str, .sl (.mu 2)]] []]), (1, .box [.int .i64, .str, .int .i64, .int .i64, .int .i64, .str, .sl (.mu 0), .int .i64, .int .i64, .int .i64, .str, .sl (.mu 0), .int .i64, .int .i64, .sl (.mu 0), .sl (.mu 1), .sl (.mu 2), .sl (.mu 2)]), (0, .box [.sl tGb, .sl tGb, .sl .str, .sl tTh, .str, .sl .str, .sl (.mu 2)])], 4⟩
abbrev X_check_scope_stmt_125_0_1 := ((List (RT.C 2)) × Int × Int × (List Gb) × (List Gb) × (List ByteArray) × (List Th) × ByteArray × (List ByteArray) × (List (RT.C 2)) × (List Gb) × (List Gb) × (List ByteArray) × (List Th) × ByteArray × (List ByteArray) × (List (RT.C 2)) × Int × ByteArray × Int × Int × Int × ByteArray × (List (RT.C 0)) × Int × Int × Int × ByteArray × (List (RT.C 0)) × Int × Int × (List (RT.C 0)) × (List (RT.C 1)) × (List (RT.C 2)) × (List (RT.C 2)) × (List Gb) × (List Gb) × (List ByteArray) × (List Th) × ByteArray × (List ByteArray) × (List (RT.C 2)))
def fl_check_scope_stmt_125_0_1 (d : StD s_check_scope_stmt_125_0_1) : X_check_scope_stmt_125_0_1 := (d.1.1, d.1.2.2.1, d.1.2.2.2.1, d.2.1.1.1.1.1, d.2.1.1.1.1.2.1, d.2.1.1.1.1.2.2.1, d.2.1.1.1.1.2.2.2.1, d.2.1.1.1.1.2.2.2.2.1, d.2.1.1.1.1.2.2.2.2.2.1, d.2.1.1.1.1.2.2.2.2.2.2.1, d.2.2.1.1.1.1.1, d.2.2.1.1.1.1.2.1, d.2.2.1.1.1.1.2.2.1, d.2.2.1.1.1.1.2.2.2.1, d.2.2.1.1.1.1.2.2.2.2.1, d.2.2.1.1.1.1.2.2.2.2.2.1, d.2.2.1.1.1.1.2.2.2.2.2.2.1, d.2.2.2.1.1, d.2.2.2.1.2.1, d.2.2.2.1.2.2.1, d.2.2.2.1.2.2.2.1, d.2.2.2.1.2.2.2.2.1, d.2.2.2.1.2.2.2.2.2.1, d.2.2.2.1.2.2.2.2.2.2.1, d.2.2.2.1.2.2.2.2.2.2.2.1, d.2.2.2.1.2.2.2.2.2.2.2.2.1, d.2.2.2.1.2.2.2.2.2.2.2.2.2.1, d.2.2.2.1.2.2.2.2.2.2.2.2.2.2.1, d.2.2.2.1.2.2.2.2.2.2.2.2.2.2.2.1, d.2.2.2.1.2.2.2.2.2.2.2.2.2.2.2.2.1, d.2.2.2.1.2.2.2.2.2.2.2.2.2.2.2.2.2.1, d.2.2.2.1.2.2.2.2.2.2.2.2.2.2.2.2.2.2.1, d.2.2.2.1.2.2.2.2.2.2.2.2.2.2.2.2.2.2.2.1, d.2.2.2.1.2.2.2.2.2.2.2.2.2.2.2.2.2.2.2.2.1, d.2.2.2.1.2.2.2.2.2.2.2.2.2.2.2.2.2.2.2.2.2.1, d.2.2.2.2.1.1, d.2.2.2.2.1.2.1, d.2.2.2.2.1.2.2.1, d.2.2.2.2.1.2.2.2.1, d.2.2.2.2.1.2.2.2.2.1, d.2.2.2.2.1.2.2.2.2.2.1, d.2.2.2.2.1.2.2.2.2.2.2.1)
def un_check_scope_stmt_125_0_1 (x : X_check_scope_stmt_125_0_1) : StD s_check_scope_stmt_125_0_1 := ((x.1, ((), ((), ())), x.2.1, x.2.2.1, ()), (((((x.2.2.2.1, x.2.2.2.2.1, x.2.2.2.2.2.1, x.2.2.2.2.2.2.1, x.2.2.2.2.2.2.2.1, x.2.2.2.2.2.2.2.2.1, x.2.2.2.2.2.2.2.2.2.1, ()), ()), ()), ()), ((((x.2.2.2.2.2.2.2.2.2.2.1, x.2.2.2.2.2.2.2.2.2.2.2.1, x.2.2.2.2.2.2.2.2.2.2.2.2.1, x.2.2.2.2.2.2.2.2.2.2.2.2.2.1, x.2.2.2.2.2.2.2.2.2.2.2.2.2.2.1, x.2.2.2.2.2.2.2.2.2.2.2.2.2.2.2.1, x.2.2.2.2.2.2.2.2.2.2.2.2.2.2.2.2.1, ()), ()), ()), ()), (x.2.2.2.2.2.2.2.2.2.2.2.2.2.2.2.2.2.1, x.2.2.2.2.2.2.2.2.2.2.2.2.2.2.2.2.2.2.1, x.2.2.2.2.2.2.2.2.2.2.2.2.2.2.2.2.2.2.2.1, x.2.2.2.2.2.2.2.2.2.2.2.2.2.2.2.2.2.2.2.2.1, x.2.2.2.2.2.2.2.2.2.2.2.2.2.2.2.2.2.2.2.2.2.1, x.2.2.2.2.2.2.2.2.2.2.2.2.2.2.2.2.2.2.2.2.2.2.1, x.2.2.2.2.2.2.2.2.2.2.2.2.2.2.2.2.2.2.2.2.2.2.2.1, x.2.2.2.2.2.2.2.2.2.2.2.2.2.2.2.2.2.2.2.2.2.2.2.2.1, x.2.2.2.2.2.2.2.2.2.2.2.2.2.2.2.2.2.2.2.2.2.2.2.2.2.1, x.2.2.2.2.2.2.2.2.2.2.2.2.2.2.2.2.2.2.2.2.2.2.2.2.2.2.1, x.2.2.2.2.2.2.2.2.2.2.2.2.2.2.2.2.2.2.2.2.2.2.2.2.2.2.2.1, x.2.2.2.2.2.2.2.2.2.2.2.2.2.2.2.2.2.2.2.2.2.2.2.2.2.2.2.2.1, x.2.2.2.2.2.2.2.2.2.2.2.2.2.2.2.2.2.2.2.2.2.2.2.2.2.2.2.2.2.1, x.2.2.2.2.2.2.2.2.2.2.2.2.2.2.2.2.2.2.2.2.2.2.2.2.2.2.2.2.2.2.1, x.2.2.2.2.2.2.2.2.2.2.2.2.2.2.2.2.2.2.2.2.2.2.2.2.2.2.2.2.2.2.2.1, x.2.2.2.2.2.2.2.2.2.2.2.2.2.2.2.2.2.2.2.2.2.2.2.2.2.2.2.2.2.2.2.2.1, x.2.2.2.2.2.2.2.2.2.2.2.2.2.2.2.2.2.2.2.2.2.2.2.2.2.2.2.2.2.2.2.2.2.1, x.2.2.2.2.2.2.2.2.2.2.2.2.2.2.2.2.2.2.2.2.2.2.2.2.2.2.2.2.2.2.2.2.2.2.1, ()), (x.2.2.2.2.2.2.2.2.2.2.2.2.2.2.2.2.2.2.2.2.2.2.2.2.2.2.2.2.2.2.2.2.2.2.2.1, x.2.2.2.2.2.2.2.2.2.2.2.2.2.2.2.2.2.2.2.2.2.2.2.2.2.2.2.2.2.2.2.2.2.2.2.2.1, x.2.2.2.2.2.2.2.2.2.2.2.2.2.2.2.2.2.2.2.2.2.2.2.2.2.2.2.2.2.2.2.2.2.2.2.2.2.1, x.2.2.2.2.2.2.2.2.2.2.2.2.2.2.2.2.2.2.2.2.2.2.2.2.2.2.2.2.2.2.2.2.2.2.2.2.2.2.1, x.2.2.2.2.2.2.2.2.2.2.2.2.2.2.2.2.2.2.2.2.2.2.2.2.2.2.2.2.2.2.2.2.2.2.2.2.2.2.2.1, x.2.2.2.2.2.2.2.2.2.2.2.2.2.2.2.2.2.2.2.2.2.2.2.2.2.2.2.2.2.2.2.2.2.2.2.2.2.2.2.2.1, x.2.2.2.2.2.2.2.2.2.2.2.2.2.2.2.2.2.2.2.2.2.2.2.2.2.2.2.2.2.2.2.2.2.2.2.2.2.2.2.2.2, ()), ()))
abbrev X_check_scope_stmt_125_0_1_0 := ((List Gb) × (List Gb) × (List ByteArray) × (List Th) × ByteArray × (List ByteArray) × (List (RT.C 2)) × (List Gb) × (List Gb) × (List ByteArray) × (List Th) × ByteArray × (List ByteArray) × (List (RT.C 2)) × Int × ByteArray × Int × Int × Int × ByteArray × (List (RT.C 0)) × Int × Int × Int × ByteArray × (List (RT.C 0)) × Int × Int × (List (RT.C 0)) × (List (RT.C 1)) × (List (RT.C 2)) × (List (RT.C 2)) × (List Gb) × (List Gb) × (List ByteArray) × (List Th) × ByteArray × (List ByteArray) × (List (RT.C 2)))
def fl_check_scope_stmt_125_0_1_0 (d : StD x_check_scope_stmt_125_0_1_0) : X_check_scope_stmt_125_0_1_0 := (d.2.1.1.1.1.1, d.2.1.1.1.1.2.1, d.2.1.1.1.1.2.2.1, d.2.1.1.1.1.2.2.2.1, d.2.1.1.1.1.2.2.2.2.1, d.2.1.1.1.1.2.2.2.2.2.1, d.2.1.1.1.1.2.2.2.2.2.2.1, d.2.2.1.1.1.1.1, d.2.2.1.1.1.1.2.1, d.2.2.1.1.1.1.2.2.1, d.2.2.1.1.1.1.2.2.2.1, d.2.2.1.1.1.1.2.2.2.2.1, d.2.2.1.1.1.1.2.2.2.2.2.1, d.2.2.1.1.1.1.2.2.2.2.2.2.1, d.2.2.2.1.1, d.2.2.2.1.2.1, d.2.2.2.1.2.2.1, d.2.2.2.1.2.2.2.1, d.2.2.2.1.2.2.2.2.1, d.2.2.2.1.2.2.2.2.2.1, d.2.2.2.1.2.2.2.2.2.2.1, d.2.2.2.1.2.2.2.2.2.2.2.1, d.2.2.2.1.2.2.2.2.2.2.2.2.1, d.2.2.2.1.2.2.2.2.2.2.2.2.2.1, d.2.2.2.1.2.2.2.2.2.2.2.2.2.2.1, d.2.2.2.1.2.2.2.2.2.2.2.2.2.2.2.1, d.2.2.2.1.2.2.2.2.2.2.2.2.2.2.2.2.1, d.2.2.2.1.2.2.2.2.2.2.2.2.2.2.2.2.2.1, d.2.2.2.1.2.2.2.2.2.2.2.2.2.2.2.2.2.2.1, d.2.2.2.1.2.2.2.2.2.2.2.2.2.2.2.2.2.2.2.1, d.2.2.2.1.2.2.2.2.2.2.2.2.2.2.2.2.2.2.2.2.1, d.2.2.2.1.2.2.2.2.2.2.2.2.2.2.2.2.2.2.2.2.2.1, d.2.2.2.2.1.1, d.2.2.2.2.1.2.1, d.2.2.2.2.1.2.2.1, d.2.2.2.2.1.2.2.2.1, d.2.2.2.2.1.2.2.2.2.1, d.2.2.2.2.1.2.2.2.2.2.1, d.2.2.2.2.1.2.2.2.2.2.2.1)
def un_check_scope_stmt_125_0_1_0 (x : X_check_scope_stmt_125_0_1_0) : StD x_check_scope_stmt_125_0_1_0 := (((), ()), (((((x.1, x.2.1, x.2.2.1, x.2.2.2.1, x.2.2.2.2.1, x.2.2.2.2.2.1, x.2.2.2.2.2.2.1, ()), ()), ()), ()), ((((x.2.2.2.2.2.2.2.1, x.2.2.2.2.2.2.2.2.1, x.2.2.2.2.2.2.2.2.2.1, x.2.2.2.2.2.2.2.2.2.2.1, x.2.2.2.2.2.2.2.2.2.2.2.1, x.2.2.2.2.2.2.2.2.2.2.2.2.1, x.2.2.2.2.2.2.2.2.2.2.2.2.2.1, ()), ()), ()), ()), (x.2.2.2.2.2.2.2.2.2.2.2.2.2.2.1, x.2.2.2.2.2.2.2.2.2.2.2.2.2.2.2.1, x.2.2.2.2.2.2.2.2.2.2.2.2.2.2.2.2.1, x.2.2.2.2.2.2.2.2.2.2.2.2.2.2.2.2.2.1, x.2.2.2.2.2.2.2.2.2.2.2.2.2.2.2.2.2.2.1, x.2.2.2.2.2.2.2.2.2.2.2.2.2.2.2.2.2.2.2.1, x.2.2.2.2.2.2.2.2.2.2.2.2.2.2.2.2.2.2.2.2.1, x.2.2.2.2.2.2.2.2.2.2.2.2.2.2.2.2.2.2.2.2.2.1, x.2.2.2.2.2.2.2.2.2.2.2.2.2.2.2.2.2.2.2.2.2.2.1, x.2.2.2.2.2.2.2.2.2.2.2.2.2.2.2.2.2.2.2.2.2.2.2.1, x.2.2.2.2.2.2.2.2.2.2.2.2.2.2.2.2.2.2.2.2.2.2.2.2.1, x.2.2.2.2.2.2.2.2.2.2.2.2.2.2.2.2.2.2.2.2.2.2.2.2.2.1, x.2.2.2.2.2.2.2.2.2.2.2.2.2.2.2.2.2.2.2.2.2.2.2.2.2.2.1, x.2.2.2.2.2.2.2.2.2.2.2.2.2.2.2.2.2.2.2.2.2.2.2.2.2.2.2.1, x.2.2.2.2.2.2.2.2.2.2.2.2.2.2.2.2.2.2.2.2.2.2.2.2.2.2.2.2.1, x.2.2.2.2.2.2.2.2.2.2.2.2.2.2.2.2.2.2.2.2.2.2.2.2.2.2.2.2.2.1, x.2.2.2.2.2.2.2.2.2.2.2.2.2.2.2.2.2.2.2.2.2.2.2.2.2.2.2.2.2.2.1, x.2.2.2.2.2.2.2.2.2.2.2.2.2.2.2.2.2.2.2.2.2.2.2.2.2.2.2.2.2.2.2.1, ()), (x.2.2.2.2.2.2.2.2.2.2.2.2.2.2.2.2.2.2.2.2.2.2.2.2.2.2.2.2.2.2.2.2.1, x.2.2.2.2.2.2.2.2.2.2.2.2.2.2.2.2.2.2.2.2.2.2.2.2.2.2.2.2.2.2.2.2.2.1, x.2.2.2.2.2.2.2.2.2.2.2.2.2.2.2.2.2.2.2.2.2.2.2.2.2.2.2.2.2.2.2.2.2.2.1, x.2.2.2.2.2.2.2.2.2.2.2.2.2.2.2.2.2.2.2.2.2.2.2.2.2.2.2.2.2.2.2.2.2.2.2.1, x.2.2.2.2.2.2.2.2.2.2.2.2.2.2.2.2.2.2.2.2.2.2.2.2.2.2.2.2.2.2.2.2.2.2.2.2.1, x.2.2.2.2.2.2.2.2.2.2.2.2.2.2.2.2.2.2.2.2.2.2.2.2.2.2.2.2.2.2.2.2.2.2.2.2.2.1, x.2.2.2.2.2.2.2.2.2.2.2.2.2.2.2.2.2.2.2.2.2.2.2.2.2.2.2.2.2.2.2.2.2.2.2.2.2.2, ()), ()))
abbrev X_check_scope_stmt_125_0_1_1 := (Int × (List Gb) × (List Gb) × (List ByteArray) × (List Th) × ByteArray × (List ByteArray) × (List (RT.C 2)) × (List Gb) × (List Gb) × (List ByteArray) × (List Th) × ByteArray × (List ByteArray) × (List (RT.C 2)) × Int × ByteArray × Int × Int × Int × ByteArray × (List (RT.C 0)) × Int × Int × Int × ByteArray × (List (RT.C 0)) × Int × Int × (List (RT.C 0)) × (List (RT.C 1)) × (List (RT.C 2)) × (List (RT.C 2)) × (List Gb) × (List Gb) × (List ByteArray) × (List Th) × ByteArray × (List ByteArray) × (List (RT.C 2)))
def fl_check_scope_stmt_125_0_1_1 (d : StD x_check_scope_stmt_125_0_1_1) : X_check_scope_stmt_125_0_1_1 := (d.1.1, d.2.1.1.1.1.1, d.2.1.1.1.1.2.1, d.2.1.1.1.1.2.2.1, d.2.1.1.1.1.2.2.2.1, d.2.1.1.1.1.2.2.2.2.1, d.2.1.1.1.1.2.2.2.2.2.1, d.2.1.1.1.1.2.2.2.2.2.2.1, d.2.2.1.1.1.1.1, d.2.2.1.1.1.1.2.1, d.2.2.1.1.1.1.2.2.1, d.2.2.1.1.1.1.2.2.2.1, d.2.2.1.1.1.1.2.2.2.2.1, d.2.2.1.1.1.1.2.2.2.2.2.1, d.2.2.1.1.1.1.2.2.2.2.2.2.1, d.2.2.2.1.1, d.2.2.2.1.2.1, d.2.2.2.1.2.2.1, d.2.2.2.1.2.2.2.1, d.2.2.2.1.2.2.2.2.1, d.2.2.2.1.2.2.2.2.2.1, d.2.2.2.1.2.2.2.2.2.2.1, d.2.2.2.1.2.2.2.2.2.2.2.1, d.2.2.2.1.2.2.2.2.2.2.2.2.1, d.2.2.2.1.2.2.2.2.2.2.2.2.2.1, d.2.2.2.1.2.2.2.2.2.2.2.2.2.2.1, d.2.2.2.1.2.2.2.2.2.2.2.2.2.2.2.1, d.2.2.2.1.2.2.2.2.2.2.2.2.2.2.2.2.1, d.2.2.2.1.2.2.2.2.2.2.2.2.2.2.2.2.2.1, d.2.2.2.1.2.2.2.2.2.2.2.2.2.2.2.2.2.2.1, d.2.2.2.1.2.2.2.2.2.2.2.2.2.2.2.2.2.2.2.1, d.2.2.2.1.2.2.2.2.2.2.2.2.2.2.2.2.2.2.2.2.1, d.2.2.2.1.2.2.2.2.2.2.2.2.2.2.2.2.2.2.2.2.2.1, d.2.2.2.2.1.1, d.2.2.2.2.1.2.1, d.2.2.2.2.1.2.2.1, d.2.2.2.2.1.2.2.2.1, d.2.2.2.2.1.2.2.2.2.1, d.2.2.2.2.1.2.2.2.2.2.1, d.2.2.2.2.1.2.2.2.2.2.2.1)
def un_check_scope_stmt_125_0_1_1 (x : X_check_scope_stmt_125_0_1_1) : StD x_check_scope_stmt_125_0_1_1 := ((x.1, ()), (((((x.2.1, x.2.2.1, x.2.2.2.1, x.2.2.2.2.1, x.2.2.2.2.2.1, x.2.2.2.2.2.2.1, x.2.2.2.2.2.2.2.1, ()), ()), ()), ()), ((((x.2.2.2.2.2.2.2.2.1, x.2.2.2.2.2.2.2.2.2.1, x.2.2.2.2.2.2.2.2.2.2.1, x.2.2.2.2.2.2.2.2.2.2.2.1, x.2.2.2.2.2.2.2.2.2.2.2.2.1, x.2.2.2.2.2.2.2.2.2.2.2.2.2.1, x.2.2.2.2.2.2.2.2.2.2.2.2.2.2.1, ()), ()), ()), ()), (x.2.2.2.2.2.2.2.2.2.2.2.2.2.2.2.1, x.2.2.2.2.2.2.2.2.2.2.2.2.2.2.2.2.1, x.2.2.2.2.2.2.2.2.2.2.2.2.2.2.2.2.2.1, x.2.2.2.2.2.2.2.2.2.2.2.2.2.2.2.2.2.2.1, x.2.2.2.2.2.2.2.2.2.2.2.2.2.2.2.2.2.2.2.1, x.2.2.2.2.2.2.2.2.2.2.2.2.2.2.2.2.2.2.2.2.1, x.2.2.2.2.2.2.2.2.2.2.2.2.2.2.2.2.2.2.2.2.2.1, x.2.2.2.2.2.2.2.2.2.2.2.2.2.2.2.2.2.2.2.2.2.2.1, x.2.2.2.2.2.2.2.2.2.2.2.2.2.2.2.2.2.2.2.2.2.2.2.1, x.2.2.2.2.2.2.2.2.2.2.2.2.2.2.2.2.2.2.2.2.2.2.2.2.1, x.2.2.2.2.2.2.2.2.2.2.2.2.2.2.2.2.2.2.2.2.2.2.2.2.2.1, x.2.2.2.2.2.2.2.2.2.2.2.2.2.2.2.2.2.2.2.2.2.2.2.2.2.2.1, x.2.2.2.2.2.2.2.2.2.2.2.2.2.2.2.2.2.2.2.2.2.2.2.2.2.2.2.1, x.2.2.2.2.2.2.2.2.2.2.2.2.2.2.2.2.2.2.2.2.2.2.2.2.2.2.2.2.1, x.2.2.2.2.2.2.2.2.2.2.2.2.2.2.2.2.2.2.2.2.2.2.2.2.2.2.2.2.2.1, x.2.2.2.2.2.2.2.2.2.2.2.2.2.2.2.2.2.2.2.2.2.2.2.2.2.2.2.2.2.2.1, x.2.2.2.2.2.2.2.2.2.2.2.2.2.2.2.2.2.2.2.2.2.2.2.2.2.2.2.2.2.2.2.1, x.2.2.2.2.2.2.2.2.2.2.2.2.2.2.2.2.2.2.2.2.2.2.2.2.2.2.2.2.2.2.2.2.1, ()), (x.2.2.2.2.2.2.2.2.2.2.2.2.2.2.2.2.2.2.2.2.2.2.2.2.2.2.2.2.2.2.2.2.2.1, x.2.2.2.2.2.2.2.2.2.2.2.2.2.2.2.2.2.2.2.2.2.2.2.2.2.2.2.2.2.2.2.2.2.2.1, x.2.2.2.2.2.2.2.2.2.2.2.2.2.2.2.2.2.2.2.2.2.2.2.2.2.2.2.2.2.2.2.2.2.2.2.1, x.2.2.2.2.2.2.2.2.2.2.2.2.2.2.2.2.2.2.2.2.2.2.2.2.2.2.2.2.2.2.2.2.2.2.2.2.1, x.2.2.2.2.2.2.2.2.2.2.2.2.2.2.2.2.2.2.2.2.2.2.2.2.2.2.2.2.2.2.2.2.2.2.2.2.2.1, x.2.2.2.2.2.2.2.2.2.2.2.2.2.2.2.2.2.2.2.2.2.2.2.2.2.2.2.2.2.2.2.2.2.2.2.2.2.2.1, x.2.2.2.2.2.2.2.2.2.2.2.2.2.2.2.2.2.2.2.2.2.2.2.2.2.2.2.2.2.2.2.2.2.2.2.2.2.2.2, ()), ()))
noncomputable def st_check_scope_stmt_125_0_1 (s0 : (List (RT.C 2))) (s7 : Int) (s8 : Int) (b3 : (List Gb)) (b3_1 : (List Gb)) (b3_2 : (List ByteArray)) (b3_3 : (List Th)) (b3_4 : ByteArray) (b3_5 : (List ByteArray)) (b3_6 : (List (RT.C 2))) (b2 : (List Gb)) (b2_1 : (List Gb)) (b2_2 : (List ByteArray)) (b2_3 : (List Th)) (b2_4 : ByteArray) (b2_5 : (List ByteArray)) (b2_6 : (List (RT.C 2))) (b1 : Int) (b1_1 : ByteArray) (b1_2 : Int) (b1_3 : Int) (b1_4 : Int) (b1_5 : ByteArray) (b1_6 : (List (RT.C 0))) (b1_7 : Int) (b1_8 : Int) (b1_9 : Int) (b1_10 : ByteArray) (b1_11 : (List (RT.C 0))) (b1_12 : Int) (b1_13 : Int) (b1_14 : (List (RT.C 0))) (b1_15 : (List (RT.C 1))) (b1_16 : (List (RT.C 2))) (b1_17 : (List (RT.C 2))) (b0 : (List Gb)) (b0_1 : (List Gb)) (b0_2 : (List ByteArray)) (b0_3 : (List Th)) (b0_4 : ByteArray) (b0_5 : (List ByteArray)) (b0_6 : (List (RT.C 2))) : Option (((List (RT.C 2)) × Int × Int × (List Gb) × (List Gb) × (List ByteArray) × (List Th) × ByteArray × (List ByteArray) × (List (RT.C 2)) × (List Gb) × (List Gb) × (List ByteArray) × (List Th) × ByteArray × (List ByteArray) × (List (RT.C 2)) × Int × ByteArray × Int × Int × Int × ByteArray × (List (RT.C 0)) × Int × Int × Int × ByteArray × (List (RT.C 0)) × Int × Int × (List (RT.C 0)) × (List (RT.C 1)) × (List (RT.C 2)) × (List (RT.C 2)) × (List Gb) × (List Gb) × (List ByteArray) × (List Th) × ByteArray × (List ByteArray) × (List (RT.C 2))) ⊕ (((List Gb) × (List Gb) × (List ByteArray) × (List Th) × ByteArray × (List ByteArray) × (List (RT.C 2)) × (List Gb) × (List Gb) × (List ByteArray) × (List Th) × ByteArray × (List ByteArray) × (List (RT.C 2)) × Int × ByteArray × Int × Int × Int × ByteArray × (List (RT.C 0)) × Int × Int × Int × ByteArray × (List (RT.C 0)) × Int × Int × (List (RT.C 0)) × (List (RT.C 1)) × (List (RT.C 2)) × (List (RT.C 2)) × (List Gb) × (List Gb) × (List ByteArray) × (List Th) × ByteArray × (List ByteArray) × (List (RT.C 2))) ⊕ (Int × (List Gb) × (List Gb) × (List ByteArray) × (List Th) × ByteArray × (List ByteArray) × (List (RT.C 2)) × (List Gb) × (List Gb) × (List ByteArray) × (List Th) × ByteArray × (List ByteArray) × (List (RT.C 2)) × Int × ByteArray × Int × Int × Int × ByteArray × (List (RT.C 0)) × Int × Int × Int × ByteArray × (List (RT.C 0)) × Int × Int × (List (RT.C 0)) × (List (RT.C 1)) × (List (RT.C 2)) × (List (RT.C 2)) × (List Gb) × (List Gb) × (List ByteArray) × (List Th) × ByteArray × (List ByteArray) × (List (RT.C 2))))) :=
  bif decide (s8 < s7) then
 bif decide (0 ≤ s8) then
 optC s0[s8.toNat]? none fun d46 ↦
 optC (Rec_check_scope_stmt.K (((b3, b3_1, b3_2, b3_3), b3_4, b3_5, b3_6), uT2 d46, ())) none fun d47 ↦
 bif !d47 then
 some
 (Sum.inr
 (Sum.inr
 (s8, b3, b3_1, b3_2, b3_3, b3_4, b3_5, b3_6, b2, b2_1, b2_2, b2_3, b2_4, b2_5, b2_6, b1, b1_1, b1_2, b1_3, b1_4, b1_5, b1_6, b1_7, b1_8, b1_9, b1_10, b1_11, b1_12, b1_13, b1_14, b1_15,
 b1_16, b1_17, b0, b0_1, b0_2, b0_3, b0_4, b0_5, b0_6)))
 else
 some
 (Sum.inl
 (s0, s7, Go.IntKind.i64.wrap (s8 + 1), b3, b3_1, b3_2, b3_3, b3_4, b3_5, b3_6, b2, b2_1, b2_2, b2_3, b2_4, b2_5, b2_6, b1, b1_1, b1_2, b1_3, b1_4, b1_5, b1_6, b1_7, b1_8, b1_9, b1_10,
 b1_11, b1_12, b1_13, b1_14, b1_15, b1_16, b1_17, b0, b0_1, b0_2, b0_3, b0_4, b0_5, b0_6))
 else none
 else
 some
 (Sum.inr
 (Sum.inl
 (b3, b3_1, b3_2, b3_3, b3_4, b3_5, b3_6, b2, b2_1, b2_2, b2_3, b2_4, b2_5, b2_6, b1, b1_1, b1_2, b1_3, b1_4, b1_5, b1_6, b1_7, b1_8, b1_9, b1_10, b1_11, b1_12, b1_13, b1_14, b1_15, b1_16,
 b1_17, b0, b0_1, b0_2, b0_3, b0_4, b0_5, b0_6)))
noncomputable def sx_check_scope_stmt_125_0_1 (x : X_check_scope_stmt_125_0_1) : Option (X_check_scope_stmt_125_0_1 ⊕ (X_check_scope_stmt_125_0_1_0 ⊕ X_check_scope_stmt_125_0_1_1)) := st_check_scope_stmt_125_0_1 x.1 x.2.1 x.2.2.1 x.2.2.2.1 x.2.2.2.2.1 x.2.2.2.2.2.1 x.2.2.2.2.2.2.1 x.2.2.2.2.2.2.2.1 x.2.2.2.2.2.2.2.2.1 x.2.2.2.2.2.2.2.2.2.1 x.2.2.2.2.2.2.2.2.2.2.1 x.2.2.2.2.2.2.2.2.2.2.2.1 x.2.2.2.2.2.2.2.2.2.2.2.2.1 x.2.2.2.2.2.2.2.2.2.2.2.2.2.1 x.2.2.2.2.2.2.2.2.2.2.2.2.2.2.1 x.2.2.2.2.2.2.2.2.2.2.2.2.2.2.2.1 x.2.2.2.2.2.2.2.2.2.2.2.2.2.2.2.2.1 x.2.2.2.2.2.2.2.2.2.2.2.2.2.2.2.2.2.1 x.2.2.2.2.2.2.2.2.2.2.2.2.2.2.2.2.2.2.1 x.2.2.2.2.2.2.2.2.2.2.2.2.2.2.2.2.2.2.2.1 x.2.2.2.2.2.2.2.2.2.2.2.2.2.2.2.2.2.2.2.2.1 x.2.2.2.2.2.2.2.2.2.2.2.2.2.2.2.2.2.2.2.2.2.1 x.2.2.2.2.2.2.2.2.2.2.2.2.2.2.2.2.2.2.2.2.2.2.1 x.2.2.2.2.2.2.2.2.2.2.2.2.2.2.2.2.2.2.2.2.2.2.2.1 x.2.2.2.2.2.2.2.2.2.2.2.2.2.2.2.2.2.2.2.2.2.2.2.2.1 x.2.2.2.2.2.2.2.2.2.2.2.2.2.2.2.2.2.2.2.2.2.2.2.2.2.1 x.2.2.2.2.2.2.2.2.2.2.2.2.2.2.2.2.2.2.2.2.2.2.2.2.2.2.1 x.2.2.2.2.2.2.2.2.2.2.2.2.2.2.2.2.2.2.2.2.2.2.2.2.2.2.2.1 x.2.2.2.2.2.2.2.2.2.2.2.2.2.2.2.2.2.2.2.2.2.2.2.2.2.2.2.2.1 x.2.2.2.2.2.2.2.2.2.2.2.2.2.2.2.2.2.2.2.2.2.2.2.2.2.2.2.2.2.1 x.2.2.2.2.2.2.2.2.2.2.2.2.2.2.2.2.2.2.2.2.2.2.2.2.2.2.2.2.2.2.1 x.2.2.2.2.2.2.2.2.2.2.2.2.2.2.2.2.2.2.2.2.2.2.2.2.2.2.2.2.2.2.2.1 x.2.2.2.2.2.2.2.2.2.2.2.2.2.2.2.2.2.2.2.2.2.2.2.2.2.2.2.2.2.2.2.2.1 x.2.2.2.2.2.2.2.2.2.2.2.2.2.2.2.2.2.2.2.2.2.2.2.2.2.2.2.2.2.2.2.2.2.1 x.2.2.2.2.2.2.2.2.2.2.2.2.2.2.2.2.2.2.2.2.2.2.2.2.2.2.2.2.2.2.2.2.2.2.1 x.2.2.2.2.2.2.2.2.2.2.2.2.2.2.2.2.2.2.2.2.2.2.2.2.2.2.2.2.2.2.2.2.2.2.2.1 x.2.2.2.2.2.2.2.2.2.2.2.2.2.2.2.2.2.2.2.2.2.2.2.2.2.2.2.2.2.2.2.2.2.2.2.2.1 x.2.2.2.2.2.2.2.2.2.2.2.2.2.2.2.2.2.2.2.2.2.2.2.2.2.2.2.2.2.2.2.2.2.2.2.2.2.1 x.2.2.2.2.2.2.2.2.2.2.2.2.2.2.2.2.2.2.2.2.2.2.2.2.2.2.2.2.2.2.2.2.2.2.2.2.2.2.1 x.2.2.2.2.2.2.2.2.2.2.2.2.2.2.2.2.2.2.2.2.2.2.2.2.2.2.2.2.2.2.2.2.2.2.2.2.2.2.2.1 x.2.2.2.2.2.2.2.2.2.2.2.2.2.2.2.2.2.2.2.2.2.2.2.2.2.2.2.2.2.2.2.2.2.2.2.2.2.2.2.2.1 x.2.2.2.2.2.2.2.2.2.2.2.2.2.2.2.2.2.2.2.2.2.2.2.2.2.2.2.2.2.2.2.2.2.2.2.2.2.2.2.2.2
theorem rn_check_scope_stmt_125_0_1 (x : X_check_scope_stmt_125_0_1) : rdX (cxU sp_check_scope_stmt [] 40 (1048576 ^ 9)) keeps 8 ⟨125, 19, keeps 125, 4⟩ 0 (bodyX 125 0) 4 kp_check_scope_stmt_125_0 (sT s_check_scope_stmt_125_0_1 (un_check_scope_stmt_125_0_1 x)) (sH s_check_scope_stmt_125_0_1 (un_check_scope_stmt_125_0_1 x)) (rdO (fun T h => (rdS s_check_scope_stmt_125_0_1 T h).map fl_check_scope_stmt_125_0_1) (getOr (getE 2 x_check_scope_stmt_125_0_1_0 fl_check_scope_stmt_125_0_1_0) (getE 1 x_check_scope_stmt_125_0_1_1 fl_check_scope_stmt_125_0_1_1))) = sx_check_scope_stmt_125_0_1 x := by kernel_rfl
noncomputable def L_check_scope_stmt_125_0_1 (x : X_check_scope_stmt_125_0_1) : Option (X_check_scope_stmt_125_0_1_0 ⊕ X_check_scope_stmt_125_0_1_1) := iterO (fun x => st_check_scope_stmt_125_0_1 x.1 x.2.1 x.2.2.1 x.2.2.2.1 x.2.2.2.2.1 x.2.2.2.2.2.1 x.2.2.2.2.2.2.1 x.2.2.2.2.2.2.2.1 x.2.2.2.2.2.2.2.2.1 x.2.2.2.2.2.2.2.2.2.1 x.2.2.2.2.2.2.2.2.2.2.1 x.2.2.2.2.2.2.2.2.2.2.2.1 x.2.2.2.2.2.2.2.2.2.2.2.2.1 x.2.2.2.2.2.2.2.2.2.2.2.2.2.1 x.2.2.2.2.2.2.2.2.2.2.2.2.2.2.1 x.2.2.2.2.2.2.2.2.2.2.2.2.2.2.2.1 x.2.2.2.2.2.2.2.2.2.2.2.2.2.2.2.2.1 x.2.2.2.2.2.2.2.2.2.2.2.2.2.2.2.2.2.1 x.2.2.2.2.2.2.2.2.2.2.2.2.2.2.2.2.2.2.1 x.2.2.2.2.2.2.2.2.2.2.2.2.2.2.2.2.2.2.2.1 x.2.2.2.2.2.2.2.2.2.2.2.2.2.2.2.2.2.2.2.2.1 x.2.2.2.2.2.2.2.2.2.2.2.2.2.2.2.2.2.2.2.2.2.1 x.2.2.2.2.2.2.2.2.2.2.2.2.2.2.2.2.2.2.2.2.2.2.1 x.2.2.2.2.2.2.2.2.2.2.2.2.2.2.2.2.2.2.2.2.2.2.2.1 x.2.2.2.2.2.2.2.2.2.2.2.2.2.2.2.2.2.2.2.2.2.2.2.2.1 x.2.2.2.2.2.2.2.2.2.2.2.2.2.2.2.2.2.2.2.2.2.2.2.2.2.1 x.2.2.2.2.2.2.2.2.2.2.2.2.2.2.2.2.2.2.2.2.2.2.2.2.2.2.1 x.2.2.2.2.2.2.2.2.2.2.2.2.2.2.2.2.2.2.2.2.2.2.2.2.2.2.2.1 x.2.2.2.2.2.2.2.2.2.2.2.2.2.2.2.2.2.2.2.2.2.2.2.2.2.2.2.2.1 x.2.2.2.2.2.2.2.2.2.2.2.2.2.2.2.2.2.2.2.2.2.2.2.2.2.2.2.2.2.1 x.2.2.2.2.2.2.2.2.2.2.2.2.2.2.2.2.2.2.2.2.2.2.2.2.2.2.2.2.2.2.1 x.2.2.2.2.2.2.2.2.2.2.2.2.2.2.2.2.2.2.2.2.2.2.2.2.2.2.2.2.2.2.2.1 x.2.2.2.2.2.2.2.2.2.2.2.2.2.2.2.2.2.2.2.2.2.2.2.2.2.2.2.2.2.2.2.2.1 x.2.2.2.2.2.2.2.2.2.2.2.2.2.2.2.2.2.2.2.2.2.2.2.2.2.2.2.2.2.2.2.2.2.1 x.2.2.2.2.2.2.2.2.2.2.2.2.2.2.2.2.2.2.2.2.2.2.2.2.2.2.2.2.2.2.2.2.2.2.1 x.2.2.2.2.2.2.2.2.2.2.2.2.2.2.2.2.2.2.2.2.2.2.2.2.2.2.2.2.2.2.2.2.2.2.2.1 x.2.2.2.2.2.2.2.2.2.2.2.2.2.2.2.2.2.2.2.2.2.2.2.2.2.2.2.2.2.2.2.2.2.2.2.2.1 x.2.2.2.2.2.2.2.2.2.2.2.2.2.2.2.2.2.2.2.2.2.2.2.2.2.2.2.2.2.2.2.2.2.2.2.2.2.1 x.2.2.2.2.2.2.2.2.2.2.2.2.2.2.2.2.2.2.2.2.2.2.2.2.2.2.2.2.2.2.2.2.2.2.2.2.2.2.1 x.2.2.2.2.2.2.2.2.2.2.2.2.2.2.2.2.2.2.2.2.2.2.2.2.2.2.2.2.2.2.2.2.2.2.2.2.2.2.2.1 x.2.2.2.2.2.2.2.2.2.2.2.2.2.2.2.2.2.2.2.2.2.2.2.2.2.2.2.2.2.2.2.2.2.2.2.2.2.2.2.2.1 x.2.2.2.2.2.2.2.2.2.2.2.2.2.2.2.2.2.2.2.2.2.2.2.2.2.2.2.2.2.2.2.2.2.2.2.2.2.2.2.2.2) FUEL x
def s_check_scope_stmt_125_0_0 : StS := ⟨[(0, .sl (.mu 2)), (1, .clo 92 [] [.ptr 2 0]), (7, .int .i64), (8, .int .i64)], [(2, .box [.clo 43 [.agg [.sl tGb, .sl tGb, .sl .str, .sl tTh, .str, .sl .str, .sl (.mu 2)]] []]), (1, .box [.int .i64, .str, .int .i64, .int .i64, .int .i64, .str, .sl (.mu 0), .int .i64, .int .i64, .int .i64, .str, .sl (.mu 0), .int .i64, .int .i64, .sl (.mu 0), .sl (.mu 1), .sl (.mu 2), .sl (.mu 2)]), (0, .box [.sl tGb, .sl tGb, .sl .str, .sl tTh, .str, .sl .str, .sl (.mu 2)])], 3⟩
def x_check_scope_stmt_125_0_0_0 : StS := ⟨[(4, .undef)], [(2, .box [.clo 43 [.agg [.sl tGb, .sl tGb, .sl .str, .sl tTh, .str, .sl .str, .sl (.mu 2)]] []]), (1, .box [.int .i64, .str, .int .i64, .int .i64, .int .i64, .str, .sl (.mu 0), .int .i64, .int .i64, .int .i64, .str, .sl (.mu 0), .int .i64, .int .i64, .sl (.mu 0), .sl (.mu 1), .sl (.mu 2), .sl (.mu 2)]), (0, .box [.sl tGb, .sl tGb, .sl .str, .sl tTh, .str, .sl .str, .sl (.mu 2)])], 3⟩
def x_check_scope_stmt_125_0_0_1 : StS := ⟨[(4, .int .i64)], [(2, .box [.clo 43 [.agg [.sl tGb, .sl tGb, .sl .str, .sl tTh, .str, .sl .str, .sl (.mu 2)]] []]), (1, .box [.int .i64, .str, .int .i64, .int .i64, .int .i64, .str, .sl (.mu 0), .int .i64, .int .i64, .int .i64, .str, .sl (.mu 0), .int .i64, .int .i64, .sl (.mu 0), .sl (.mu 1), .sl (.mu 2), .sl (.mu 2)]), (0, .box [.sl tGb, .sl tGb, .sl .str, .sl tTh, .str, .sl .str, .sl (.mu 2)])], 3⟩
abbrev X_check_scope_stmt_125_0_0 := ((List (RT.C 2)) × Int × Int × (List Gb) × (List Gb) × (List ByteArray) × (List Th) × ByteArray × (List ByteArray) × (List (RT.C 2)) × Int × ByteArray × Int × Int × Int × ByteArray × (List (RT.C 0)) × Int × Int × Int × ByteArray × (List (RT.C 0)) × Int × Int × (List (RT.C 0)) × (List (RT.C 1)) × (List (RT.C 2)) × (List (RT.C 2)) × (List Gb) × (List Gb) × (List ByteArray) × (List Th) × ByteArray × (List ByteArray) × (List (RT.C 2)))
def fl_check_scope_stmt_125_0_0 (d : StD s_check_scope_stmt_125_0_0) : X_check_scope_stmt_125_0_0 := (d.1.1, d.1.2.2.1, d.1.2.2.2.1, d.2.1.1.1.1.1, d.2.1.1.1.1.2.1, d.2.1.1.1.1.2.2.1, d.2.1.1.1.1.2.2.2.1, d.2.1.1.1.1.2.2.2.2.1, d.2.1.1.1.1.2.2.2.2.2.1, d.2.1.1.1.1.2.2.2.2.2.2.1, d.2.2.1.1, d.2.2.1.2.1, d.2.2.1.2.2.1, d.2.2.1.2.2.2.1, d.2.2.1.2.2.2.2.1, d.2.2.1.2.2.2.2.2.1, d.2.2.1.2.2.2.2.2.2.1, d.2.2.1.2.2.2.2.2.2.2.1, d.2.2.1.2.2.2.2.2.2.2.2.1, d.2.2.1.2.2.2.2.2.2.2.2.2.1, d.2.2.1.2.2.2.2.2.2.2.2.2.2.1, d.2.2.1.2.2.2.2.2.2.2.2.2.2.2.1, d.2.2.1.2.2.2.2.2.2.2.2.2.2.2.2.1, d.2.2.1.2.2.2.2.2.2.2.2.2.2.2.2.2.1, d.2.2.1.2.2.2.2.2.2.2.2.2.2.2.2.2.2.1, d.2.2.1.2.2.2.2.2.2.2.2.2.2.2.2.2.2.2.1, d.2.2.1.2.2.2.2.2.2.2.2.2.2.2.2.2.2.2.2.1, d.2.2.1.2.2.2.2.2.2.2.2.2.2.2.2.2.2.2.2.2.1, d.2.2.2.1.1, d.2.2.2.1.2.1, d.2.2.2.1.2.2.1, d.2.2.2.1.2.2.2.1, d.2.2.2.1.2.2.2.2.1, d.2.2.2.1.2.2.2.2.2.1, d.2.2.2.1.2.2.2.2.2.2.1)
def un_check_scope_stmt_125_0_0 (x : X_check_scope_stmt_125_0_0) : StD s_check_scope_stmt_125_0_0 := ((x.1, ((), ((), ())), x.2.1, x.2.2.1, ()), (((((x.2.2.2.1, x.2.2.2.2.1, x.2.2.2.2.2.1, x.2.2.2.2.2.2.1, x.2.2.2.2.2.2.2.1, x.2.2.2.2.2.2.2.2.1, x.2.2.2.2.2.2.2.2.2.1, ()), ()), ()), ()), (x.2.2.2.2.2.2.2.2.2.2.1, x.2.2.2.2.2.2.2.2.2.2.2.1, x.2.2.2.2.2.2.2.2.2.2.2.2.1, x.2.2.2.2.2.2.2.2.2.2.2.2.2.1, x.2.2.2.2.2.2.2.2.2.2.2.2.2.2.1, x.2.2.2.2.2.2.2.2.2.2.2.2.2.2.2.1, x.2.2.2.2.2.2.2.2.2.2.2.2.2.2.2.2.1, x.2.2.2.2.2.2.2.2.2.2.2.2.2.2.2.2.2.1, x.2.2.2.2.2.2.2.2.2.2.2.2.2.2.2.2.2.2.1, x.2.2.2.2.2.2.2.2.2.2.2.2.2.2.2.2.2.2.2.1, x.2.2.2.2.2.2.2.2.2.2.2.2.2.2.2.2.2.2.2.2.1, x.2.2.2.2.2.2.2.2.2.2.2.2.2.2.2.2.2.2.2.2.2.1, x.2.2.2.2.2.2.2.2.2.2.2.2.2.2.2.2.2.2.2.2.2.2.1, x.2.2.2.2.2.2.2.2.2.2.2.2.2.2.2.2.2.2.2.2.2.2.2.1, x.2.2.2.2.2.2.2.2.2.2.2.2.2.2.2.2.2.2.2.2.2.2.2.2.1, x.2.2.2.2.2.2.2.2.2.2.2.2.2.2.2.2.2.2.2.2.2.2.2.2.2.1, x.2.2.2.2.2.2.2.2.2.2.2.2.2.2.2.2.2.2.2.2.2.2.2.2.2.2.1, x.2.2.2.2.2.2.2.2.2.2.2.2.2.2.2.2.2.2.2.2.2.2.2.2.2.2.2.1, ()), (x.2.2.2.2.2.2.2.2.2.2.2.2.2.2.2.2.2.2.2.2.2.2.2.2.2.2.2.2.1, x.2.2.2.2.2.2.2.2.2.2.2.2.2.2.2.2.2.2.2.2.2.2.2.2.2.2.2.2.2.1, x.2.2.2.2.2.2.2.2.2.2.2.2.2.2.2.2.2.2.2.2.2.2.2.2.2.2.2.2.2.2.1, x.2.2.2.2.2.2.2.2.2.2.2.2.2.2.2.2.2.2.2.2.2.2.2.2.2.2.2.2.2.2.2.1, x.2.2.2.2.2.2.2.2.2.2.2.2.2.2.2.2.2.2.2.2.2.2.2.2.2.2.2.2.2.2.2.2.1, x.2.2.2.2.2.2.2.2.2.2.2.2.2.2.2.2.2.2.2.2.2.2.2.2.2.2.2.2.2.2.2.2.2.1, x.2.2.2.2.2.2.2.2.2.2.2.2.2.2.2.2.2.2.2.2.2.2.2.2.2.2.2.2.2.2.2.2.2.2, ()), ()))
abbrev X_check_scope_stmt_125_0_0_0 := ((List Gb) × (List Gb) × (List ByteArray) × (List Th) × ByteArray × (List ByteArray) × (List (RT.C 2)) × Int × ByteArray × Int × Int × Int × ByteArray × (List (RT.C 0)) × Int × Int × Int × ByteArray × (List (RT.C 0)) × Int × Int × (List (RT.C 0)) × (List (RT.C 1)) × (List (RT.C 2)) × (List (RT.C 2)) × (List Gb) × (List Gb) × (List ByteArray) × (List Th) × ByteArray × (List ByteArray) × (List (RT.C 2)))
def fl_check_scope_stmt_125_0_0_0 (d : StD x_check_scope_stmt_125_0_0_0) : X_check_scope_stmt_125_0_0_0 := (d.2.1.1.1.1.1, d.2.1.1.1.1.2.1, d.2.1.1.1.1.2.2.1, d.2.1.1.1.1.2.2.2.1, d.2.1.1.1.1.2.2.2.2.1, d.2.1.1.1.1.2.2.2.2.2.1, d.2.1.1.1.1.2.2.2.2.2.2.1, d.2.2.1.1, d.2.2.1.2.1, d.2.2.1.2.2.1, d.2.2.1.2.2.2.1, d.2.2.1.2.2.2.2.1, d.2.2.1.2.2.2.2.2.1, d.2.2.1.2.2.2.2.2.2.1, d.2.2.1.2.2.2.2.2.2.2.1, d.2.2.1.2.2.2.2.2.2.2.2.1, d.2.2.1.2.2.2.2.2.2.2.2.2.1, d.2.2.1.2.2.2.2.2.2.2.2.2.2.1, d.2.2.1.2.2.2.2.2.2.2.2.2.2.2.1, d.2.2.1.2.2.2.2.2.2.2.2.2.2.2.2.1, d.2.2.1.2.2.2.2.2.2.2.2.2.2.2.2.2.1, d.2.2.1.2.2.2.2.2.2.2.2.2.2.2.2.2.2.1, d.2.2.1.2.2.2.2.2.2.2.2.2.2.2.2.2.2.2.1, d.2.2.1.2.2.2.2.2.2.2.2.2.2.2.2.2.2.2.2.1, d.2.2.1.2.2.2.2.2.2.2.2.2.2.2.2.2.2.2.2.2.1, d.2.2.2.1.1, d.2.2.2.1.2.1, d.2.2.2.1.2.2.1, d.2.2.2.1.2.2.2.1, d.2.2.2.1.2.2.2.2.1, d.2.2.2.1.2.2.2.2.2.1, d.2.2.2.1.2.2.2.2.2.2.1)
def un_check_scope_stmt_125_0_0_0 (x : X_check_scope_stmt_125_0_0_0) : StD x_check_scope_stmt_125_0_0_0 := (((), ()), (((((x.1, x.2.1, x.2.2.1, x.2.2.2.1, x.2.2.2.2.1, x.2.2.2.2.2.1, x.2.2.2.2.2.2.1, ()), ()), ()), ()), (x.2.2.2.2.2.2.2.1, x.2.2.2.2.2.2.2.2.1, x.2.2.2.2.2.2.2.2.2.1, x.2.2.2.2.2.2.2.2.2.2.1, x.2.2.2.2.2.2.2.2.2.2.2.1, x.2.2.2.2.2.2.2.2.2.2.2.2.1, x.2.2.2.2.2.2.2.2.2.2.2.2.2.1, x.2.2.2.2.2.2.2.2.2.2.2.2.2.2.1, x.2.2.2.2.2.2.2.2.2.2.2.2.2.2.2.1, x.2.2.2.2.2.2.2.2.2.2.2.2.2.2.2.2.1, x.2.2.2.2.2.2.2.2.2.2.2.2.2.2.2.2.2.1, x.2.2.2.2.2.2.2.2.2.2.2.2.2.2.2.2.2.2.1, x.2.2.2.2.2.2.2.2.2.2.2.2.2.2.2.2.2.2.2.1, x.2.2.2.2.2.2.2.2.2.2.2.2.2.2.2.2.2.2.2.2.1, x.2.2.2.2.2.2.2.2.2.2.2.2.2.2.2.2.2.2.2.2.2.1, x.2.2.2.2.2.2.2.2.2.2.2.2.2.2.2.2.2.2.2.2.2.2.1, x.2.2.2.2.2.2.2.2.2.2.2.2.2.2.2.2.2.2.2.2.2.2.2.1, x.2.2.2.2.2.2.2.2.2.2.2.2.2.2.2.2.2.2.2.2.2.2.2.2.1, ()), (x.2.2.2.2.2.2.2.2.2.2.2.2.2.2.2.2.2.2.2.2.2.2.2.2.2.1, x.2.2.2.2.2.2.2.2.2.2.2.2.2.2.2.2.2.2.2.2.2.2.2.2.2.2.1, x.2.2.2.2.2.2.2.2.2.2.2.2.2.2.2.2.2.2.2.2.2.2.2.2.2.2.2.1, x.2.2.2.2.2.2.2.2.2.2.2.2.2.2.2.2.2.2.2.2.2.2.2.2.2.2.2.2.1, x.2.2.2.2.2.2.2.2.2.2.2.2.2.2.2.2.2.2.2.2.2.2.2.2.2.2.2.2.2.1, x.2.2.2.2.2.2.2.2.2.2.2.2.2.2.2.2.2.2.2.2.2.2.2.2.2.2.2.2.2.2.1, x.2.2.2.2.2.2.2.2.2.2.2.2.2.2.2.2.2.2.2.2.2.2.2.2.2.2.2.2.2.2.2, ()), ()))
abbrev X_check_scope_stmt_125_0_0_1 := (Int × (List Gb) × (List Gb) × (List ByteArray) × (List Th) × ByteArray × (List ByteArray) × (List (RT.C 2)) × Int × ByteArray × Int × Int × Int × ByteArray × (List (RT.C 0)) × Int × Int × Int × ByteArray × (List (RT.C 0)) × Int × Int × (List (RT.C 0)) × (List (RT.C 1)) × (List (RT.C 2)) × (List (RT.C 2)) × (List Gb) × (List Gb) × (List ByteArray) × (List Th) × ByteArray × (List ByteArray) × (List (RT.C 2)))
def fl_check_scope_stmt_125_0_0_1 (d : StD x_check_scope_stmt_125_0_0_1) : X_check_scope_stmt_125_0_0_1 := (d.1.1, d.2.1.1.1.1.1, d.2.1.1.1.1.2.1, d.2.1.1.1.1.2.2.1, d.2.1.1.1.1.2.2.2.1, d.2.1.1.1.1.2.2.2.2.1, d.2.1.1.1.1.2.2.2.2.2.1, d.2.1.1.1.1.2.2.2.2.2.2.1, d.2.2.1.1, d.2.2.1.2.1, d.2.2.1.2.2.1, d.2.2.1.2.2.2.1, d.2.2.1.2.2.2.2.1, d.2.2.1.2.2.2.2.2.1, d.2.2.1.2.2.2.2.2.2.1, d.2.2.1.2.2.2.2.2.2.2.1, d.2.2.1.2.2.2.2.2.2.2.2.1, d.2.2.1.2.2.2.2.2.2.2.2.2.1, d.2.2.1.2.2.2.2.2.2.2.2.2.2.1, d.2.2.1.2.2.2.2.2.2.2.2.2.2.2.1, d.2.2.1.2.2.2.2.2.2.2.2.2.2.2.2.1, d.2.2.1.2.2.2.2.2.2.2.2.2.2.2.2.2.1, d.2.2.1.2.2.2.2.2.2.2.2.2.2.2.2.2.2.1, d.2.2.1.2.2.2.2.2.2.2.2.2.2.2.2.2.2.2.1, d.2.2.1.2.2.2.2.2.2.2.2.2.2.2.2.2.2.2.2.1, d.2.2.1.2.2.2.2.2.2.2.2.2.2.2.2.2.2.2.2.2.1, d.2.2.2.1.1, d.2.2.2.1.2.1, d.2.2.2.1.2.2.1, d.2.2.2.1.2.2.2.1, d.2.2.2.1.2.2.2.2.1, d.2.2.2.1.2.2.2.2.2.1, d.2.2.2.1.2.2.2.2.2.2.1)
def un_check_scope_stmt_125_0_0_1 (x : X_check_scope_stmt_125_0_0_1) : StD x_check_scope_stmt_125_0_0_1 := ((x.1, ()), (((((x.2.1, x.2.2.1, x.2.2.2.1, x.2.2.2.2.1, x.2.2.2.2.2.1, x.2.2.2.2.2.2.1, x.2.2.2.2.2.2.2.1, ()), ()), ()), ()), (x.2.2.2.2.2.2.2.2.1, x.2.2.2.2.2.2.2.2.2.1, x.2.2.2.2.2.2.2.2.2.2.1, x.2.2.2.2.2.2.2.2.2.2.2.1, x.2.2.2.2.2.2.2.2.2.2.2.2.1, x.2.2.2.2.2.2.2.2.2.2.2.2.2.1, x.2.2.2.2.2.2.2.2.2.2.2.2.2.2.1, x.2.2.2.2.2.2.2.2.2.2.2.2.2.2.2.1, x.2.2.2.2.2.2.2.2.2.2.2.2.2.2.2.2.1, x.2.2.2.2.2.2.2.2.2.2.2.2.2.2.2.2.2.1, x.2.2.2.2.2.2.2.2.2.2.2.2.2.2.2.2.2.2.1, x.2.2.2.2.2.2.2.2.2.2.2.2.2.2.2.2.2.2.2.1, x.2.2.2.2.2.2.2.2.2.2.2.2.2.2.2.2.2.2.2.2.1, x.2.2.2.2.2.2.2.2.2.2.2.2.2.2.2.2.2.2.2.2.2.1, x.2.2.2.2.2.2.2.2.2.2.2.2.2.2.2.2.2.2.2.2.2.2.1, x.2.2.2.2.2.2.2.2.2.2.2.2.2.2.2.2.2.2.2.2.2.2.2.1, x.2.2.2.2.2.2.2.2.2.2.2.2.2.2.2.2.2.2.2.2.2.2.2.2.1, x.2.2.2.2.2.2.2.2.2.2.2.2.2.2.2.2.2.2.2.2.2.2.2.2.2.1, ()), (x.2.2.2.2.2.2.2.2.2.2.2.2.2.2.2.2.2.2.2.2.2.2.2.2.2.2.1, x.2.2.2.2.2.2.2.2.2.2.2.2.2.2.2.2.2.2.2.2.2.2.2.2.2.2.2.1, x.2.2.2.2.2.2.2.2.2.2.2.2.2.2.2.2.2.2.2.2.2.2.2.2.2.2.2.2.1, x.2.2.2.2.2.2.2.2.2.2.2.2.2.2.2.2.2.2.2.2.2.2.2.2.2.2.2.2.2.1, x.2.2.2.2.2.2.2.2.2.2.2.2.2.2.2.2.2.2.2.2.2.2.2.2.2.2.2.2.2.2.1, x.2.2.2.2.2.2.2.2.2.2.2.2.2.2.2.2.2.2.2.2.2.2.2.2.2.2.2.2.2.2.2.1, x.2.2.2.2.2.2.2.2.2.2.2.2.2.2.2.2.2.2.2.2.2.2.2.2.2.2.2.2.2.2.2.2, ()), ()))
noncomputable def st_check_scope_stmt_125_0_0 (s0 : (List (RT.C 2))) (s7 : Int) (s8 : Int) (b2 : (List Gb)) (b2_1 : (List Gb)) (b2_2 : (List ByteArray)) (b2_3 : (List Th)) (b2_4 : ByteArray) (b2_5 : (List ByteArray)) (b2_6 : (List (RT.C 2))) (b1 : Int) (b1_1 : ByteArray) (b1_2 : Int) (b1_3 : Int) (b1_4 : Int) (b1_5 : ByteArray) (b1_6 : (List (RT.C 0))) (b1_7 : Int) (b1_8 : Int) (b1_9 : Int) (b1_10 : ByteArray) (b1_11 : (List (RT.C 0))) (b1_12 : Int) (b1_13 : Int) (b1_14 : (List (RT.C 0))) (b1_15 : (List (RT.C 1))) (b1_16 : (List (RT.C 2))) (b1_17 : (List (RT.C 2))) (b0 : (List Gb)) (b0_1 : (List Gb)) (b0_2 : (List ByteArray)) (b0_3 : (List Th)) (b0_4 : ByteArray) (b0_5 : (List ByteArray)) (b0_6 : (List (RT.C 2))) : Option (((List (RT.C 2)) × Int × Int × (List Gb) × (List Gb) × (List ByteArray) × (List Th) × ByteArray × (List ByteArray) × (List (RT.C 2)) × Int × ByteArray × Int × Int × Int × ByteArray × (List (RT.C 0)) × Int × Int × Int × ByteArray × (List (RT.C 0)) × Int × Int × (List (RT.C 0)) × (List (RT.C 1)) × (List (RT.C 2)) × (List (RT.C 2)) × (List Gb) × (List Gb) × (List ByteArray) × (List Th) × ByteArray × (List ByteArray) × (List (RT.C 2))) ⊕ (((List Gb) × (List Gb) × (List ByteArray) × (List Th) × ByteArray × (List ByteArray) × (List (RT.C 2)) × Int × ByteArray × Int × Int × Int × ByteArray × (List (RT.C 0)) × Int × Int × Int × ByteArray × (List (RT.C 0)) × Int × Int × (List (RT.C 0)) × (List (RT.C 1)) × (List (RT.C 2)) × (List (RT.C 2)) × (List Gb) × (List Gb) × (List ByteArray) × (List Th) × ByteArray × (List ByteArray) × (List (RT.C 2))) ⊕ (Int × (List Gb) × (List Gb) × (List ByteArray) × (List Th) × ByteArray × (List ByteArray) × (List (RT.C 2)) × Int × ByteArray × Int × Int × Int × ByteArray × (List (RT.C 0)) × Int × Int × Int × ByteArray × (List (RT.C 0)) × Int × Int × (List (RT.C 0)) × (List (RT.C 1)) × (List (RT.C 2)) × (List (RT.C 2)) × (List Gb) × (List Gb) × (List ByteArray) × (List Th) × ByteArray × (List ByteArray) × (List (RT.C 2))))) :=
  bif decide (s8 < s7) then
 bif decide (0 ≤ s8) then
 optC s0[s8.toNat]? none fun d39 ↦
 optC (Rec_check_scope_stmt.K (((b2, b2_1, b2_2, b2_3), b2_4, b2_5, b2_6), uT2 d39, ())) none fun d40 ↦
 bif !d40 then
 some
 (Sum.inr
 (Sum.inr
 (s8, b2, b2_1, b2_2, b2_3, b2_4, b2_5, b2_6, b1, b1_1, b1_2, b1_3, b1_4, b1_5, b1_6, b1_7, b1_8, b1_9, b1_10, b1_11, b1_12, b1_13, b1_14, b1_15, b1_16, b1_17, b0, b0_1, b0_2, b0_3,
 b0_4, b0_5, b0_6)))
 else
 some
 (Sum.inl
 (s0, s7, Go.IntKind.i64.wrap (s8 + 1), b2, b2_1, b2_2, b2_3, b2_4, b2_5, b2_6, b1, b1_1, b1_2, b1_3, b1_4, b1_5, b1_6, b1_7, b1_8, b1_9, b1_10, b1_11, b1_12, b1_13, b1_14, b1_15, b1_16,
 b1_17, b0, b0_1, b0_2, b0_3, b0_4, b0_5, b0_6))
 else none
 else
 some
 (Sum.inr
 (Sum.inl
 (b2, b2_1, b2_2, b2_3, b2_4, b2_5, b2_6, b1, b1_1, b1_2, b1_3, b1_4, b1_5, b1_6, b1_7, b1_8, b1_9, b1_10, b1_11, b1_12, b1_13, b1_14, b1_15, b1_16, b1_17, b0, b0_1, b0_2, b0_3, b0_4, b0_5,
 b0_6)))
noncomputable def sx_check_scope_stmt_125_0_0 (x : X_check_scope_stmt_125_0_0) : Option (X_check_scope_stmt_125_0_0 ⊕ (X_check_scope_stmt_125_0_0_0 ⊕ X_check_scope_stmt_125_0_0_1)) := st_check_scope_stmt_125_0_0 x.1 x.2.1 x.2.2.1 x.2.2.2.1 x.2.2.2.2.1 x.2.2.2.2.2.1 x.2.2.2.2.2.2.1 x.2.2.2.2.2.2.2.1 x.2.2.2.2.2.2.2.2.1 x.2.2.2.2.2.2.2.2.2.1 x.2.2.2.2.2.2.2.2.2.2.1 x.2.2.2.2.2.2.2.2.2.2.2.1 x.2.2.2.2.2.2.2.2.2.2.2.2.1 x.2.2.2.2.2.2.2.2.2.2.2.2.2.1 x.2.2.2.2.2.2.2.2.2.2.2.2.2.2.1 x.2.2.2.2.2.2.2.2.2.2.2.2.2.2.2.1 x.2.2.2.2.2.2.2.2.2.2.2.2.2.2.2.2.1 x.2.2.2.2.2.2.2.2.2.2.2.2.2.2.2.2.2.1 x.2.2.2.2.2.2.2.2.2.2.2.2.2.2.2.2.2.2.1 x.2.2.2.2.2.2.2.2.2.2.2.2.2.2.2.2.2.2.2.1 x.2.2.2.2.2.2.2.2.2.2.2.2.2.2.2.2.2.2.2.2.1 x.2.2.2.2.2.2.2.2.2.2.2.2.2.2.2.2.2.2.2.2.2.1 x.2.2.2.2.2.2.2.2.2.2.2.2.2.2.2.2.2.2.2.2.2.2.1 x.2.2.2.2.2.2.2.2.2.2.2.2.2.2.2.2.2.2.2.2.2.2.2.1 x.2.2.2.2.2.2.2.2.2.2.2.2.2.2.2.2.2.2.2.2.2.2.2.2.1 x.2.2.2.2.2.2.2.2.2.2.2.2.2.2.2.2.2.2.2.2.2.2.2.2.2.1 x.2.2.2.2.2.2.2.2.2.2.2.2.2.2.2.2.2.2.2.2.2.2.2.2.2.2.1 x.2.2.2.2.2.2.2.2.2.2.2.2.2.2.2.2.2.2.2.2.2.2.2.2.2.2.2.1 x.2.2.2.2.2.2.2.2.2.2.2.2.2.2.2.2.2.2.2.2.2.2.2.2.2.2.2.2.1 x.2.2.2.2.2.2.2.2.2.2.2.2.2.2.2.2.2.2.2.2.2.2.2.2.2.2.2.2.2.1 x.2.2.2.2.2.2.2.2.2.2.2.2.2.2.2.2.2.2.2.2.2.2.2.2.2.2.2.2.2.2.1 x.2.2.2.2.2.2.2.2.2.2.2.2.2.2.2.2.2.2.2.2.2.2.2.2.2.2.2.2.2.2.2.1 x.2.2.2.2.2.2.2.2.2.2.2.2.2.2.2.2.2.2.2.2.2.2.2.2.2.2.2.2.2.2.2.2.1 x.2.2.2.2.2.2.2.2.2.2.2.2.2.2.2.2.2.2.2.2.2.2.2.2.2.2.2.2.2.2.2.2.2.1 x.2.2.2.2.2.2.2.2.2.2.2.2.2.2.2.2.2.2.2.2.2.2.2.2.2.2.2.2.2.2.2.2.2.2
theorem rn_check_scope_stmt_125_0_0 (x : X_check_scope_stmt_125_0_0) : rdX (cxU sp_check_scope_stmt [] 40 (1048576 ^ 9)) keeps 8 ⟨125, 19, keeps 125, 3⟩ 0 (bodyX 125 0) 3 kp_check_scope_stmt_125_0 (sT s_check_scope_stmt_125_0_0 (un_check_scope_stmt_125_0_0 x)) (sH s_check_scope_stmt_125_0_0 (un_check_scope_stmt_125_0_0 x)) (rdO (fun T h => (rdS s_check_scope_stmt_125_0_0 T h).map fl_check_scope_stmt_125_0_0) (getOr (getE 2 x_check_scope_stmt_125_0_0_0 fl_check_scope_stmt_125_0_0_0) (getE 1 x_check_scope_stmt_125_0_0_1 fl_check_scope_stmt_125_0_0_1))) = sx_check_scope_stmt_125_0_0 x := by kernel_rfl
noncomputable def L_check_scope_stmt_125_0_0 (x : X_check_scope_stmt_125_0_0) : Option (X_check_scope_stmt_125_0_0_0 ⊕ X_check_scope_stmt_125_0_0_1) := iterO (fun x => st_check_scope_stmt_125_0_0 x.1 x.2.1 x.2.2.1 x.2.2.2.1 x.2.2.2.2.1 x.2.2.2.2.2.1 x.2.2.2.2.2.2.1 x.2.2.2.2.2.2.2.1 x.2.2.2.2.2.2.2.2.1 x.2.2.2.2.2.2.2.2.2.1 x.2.2.2.2.2.2.2.2.2.2.1 x.2.2.2.2.2.2.2.2.2.2.2.1 x.2.2.2.2.2.2.2.2.2.2.2.2.1 x.2.2.2.2.2.2.2.2.2.2.2.2.2.1 x.2.2.2.2.2.2.2.2.2.2.2.2.2.2.1 x.2.2.2.2.2.2.2.2.2.2.2.2.2.2.2.1 x.2.2.2.2.2.2.2.2.2.2.2.2.2.2.2.2.1 x.2.2.2.2.2.2.2.2.2.2.2.2.2.2.2.2.2.1 x.2.2.2.2.2.2.2.2.2.2.2.2.2.2.2.2.2.2.1 x.2.2.2.2.2.2.2.2.2.2.2.2.2.2.2.2.2.2.2.1 x.2.2.2.2.2.2.2.2.2.2.2.2.2.2.2.2.2.2.2.2.1 x.2.2.2.2.2.2.2.2.2.2.2.2.2.2.2.2.2.2.2.2.2.1 x.2.2.2.2.2.2.2.2.2.2.2.2.2.2.2.2.2.2.2.2.2.2.1 x.2.2.2.2.2.2.2.2.2.2.2.2.2.2.2.2.2.2.2.2.2.2.2.1 x.2.2.2.2.2.2.2.2.2.2.2.2.2.2.2.2.2.2.2.2.2.2.2.2.1 x.2.2.2.2.2.2.2.2.2.2.2.2.2.2.2.2.2.2.2.2.2.2.2.2.2.1 x.2.2.2.2.2.2.2.2.2.2.2.2.2.2.2.2.2.2.2.2.2.2.2.2.2.2.1 x.2.2.2.2.2.2.2.2.2.2.2.2.2.2.2.2.2.2.2.2.2.2.2.2.2.2.2.1 x.2.2.2.2.2.2.2.2.2.2.2.2.2.2.2.2.2.2.2.2.2.2.2.2.2.2.2.2.1 x.2.2.2.2.2.2.2.2.2.2.2.2.2.2.2.2.2.2.2.2.2.2.2.2.2.2.2.2.2.1 x.2.2.2.2.2.2.2.2.2.2.2.2.2.2.2.2.2.2.2.2.2.2.2.2.2.2.2.2.2.2.1 x.2.2.2.2.2.2.2.2.2.2.2.2.2.2.2.2.2.2.2.2.2.2.2.2.2.2.2.2.2.2.2.1 x.2.2.2.2.2.2.2.2.2.2.2.2.2.2.2.2.2.2.2.2.2.2.2.2.2.2.2.2.2.2.2.2.1 x.2.2.2.2.2.2.2.2.2.2.2.2.2.2.2.2.2.2.2.2.2.2.2.2.2.2.2.2.2.2.2.2.2.1 x.2.2.2.2.2.2.2.2.2.2.2.2.2.2.2.2.2.2.2.2.2.2.2.2.2.2.2.2.2.2.2.2.2.2) FUEL x
noncomputable def q_check_scope_stmt_125_0 : Nat → Tm → Prog (Nat × Tm) := (varP 3 (fun T h => (rdS s_check_scope_stmt_125_0_0 T h).map fl_check_scope_stmt_125_0_0) L_check_scope_stmt_125_0_0 (fun y => .alt y (altE 2 x_check_scope_stmt_125_0_0_0 un_check_scope_stmt_125_0_0_0) (altE 1 x_check_scope_stmt_125_0_0_1 un_check_scope_stmt_125_0_0_1)) (varP 4 (fun T h => (rdS s_check_scope_stmt_125_0_1 T h).map fl_check_scope_stmt_125_0_1) L_check_scope_stmt_125_0_1 (fun y => .alt y (altE 2 x_check_scope_stmt_125_0_1_0 un_check_scope_stmt_125_0_1_0) (altE 1 x_check_scope_stmt_125_0_1_1 un_check_scope_stmt_125_0_1_1)) (fun _ _ => .fail)))
noncomputable def lc_check_scope_stmt_125_0 : Lpc := ⟨125, 0, 19, (fun base T => .norm base (kp_check_scope_stmt_125_0 0) T (q_check_scope_stmt_125_0 base)), by kernel_rfl, by kernel_rfl, (loopU sp_check_scope_stmt [] 40 (1048576 ^ 9) 8 (keep := kp_check_scope_stmt_125_0) (q := q_check_scope_stmt_125_0) (by kernel_rfl) (varX_ok (s := s_check_scope_stmt_125_0_0) (un := un_check_scope_stmt_125_0_0) (by rfl) (fun _ => rfl) (getOr_ok (getE_ok (s := x_check_scope_stmt_125_0_0_0) (un := un_check_scope_stmt_125_0_0_0) (by rfl) (fun _ => rfl)) (getE_ok (s := x_check_scope_stmt_125_0_0_1) (un := un_check_scope_stmt_125_0_0_1) (by rfl) (fun _ => rfl))) (step := sx_check_scope_stmt_125_0_0) rn_check_scope_stmt_125_0_0 (fun _ _ e => ⟨_, e⟩) (altOr_ok (altE_ok 2 x_check_scope_stmt_125_0_0_0 un_check_scope_stmt_125_0_0_0) (altE_ok 1 x_check_scope_stmt_125_0_0_1 un_check_scope_stmt_125_0_0_1)) (varX_ok (s := s_check_scope_stmt_125_0_1) (un := un_check_scope_stmt_125_0_1) (by rfl) (fun _ => rfl) (getOr_ok (getE_ok (s := x_check_scope_stmt_125_0_1_0) (un := un_check_scope_stmt_125_0_1_0) (by rfl) (fun _ => rfl)) (getE_ok (s := x_check_scope_stmt_125_0_1_1) (un := un_check_scope_stmt_125_0_1_1) (by rfl) (fun _ => rfl))) (step := sx_check_scope_stmt_125_0_1) rn_check_scope_stmt_125_0_1 (fun _ _ e => ⟨_, e⟩) (altOr_ok (altE_ok 2 x_check_scope_stmt_125_0_1_0 un_check_scope_stmt_125_0_1_0) (altE_ok 1 x_check_scope_stmt_125_0_1_1 un_check_scope_stmt_125_0_1_1)) (VarOk.fail _ _))))⟩
noncomputable def g_check_scope_stmt (a0 : (Pg × Th)) (a1 : Stm) : Option Bool :=
  bif a1.1 == 1 then
 optC (G_check_scope_isVar (a0, a1.2.1, ())) none fun d6 ↦
 bif d6 then optC (G_check_scope_expr (a0, a1.2.2.2.1, ())) none fun d7 ↦ some d7 else some false
 else
 bif a1.1 == 2 then
 optC (G_check_Array (a0.1, a1.2.1, ())) none fun d6 ↦
 bif decide (d6 ≥ 0) then
 optC (G_check_scope_expr (a0, a1.2.2.1, ())) none fun d7 ↦
 bif d7 then optC (G_check_scope_expr (a0, a1.2.2.2.1, ())) none fun d8 ↦ some d8 else some false
 else some false
 else
 bif a1.1 == 3 then optC (G_check_Mutex (a0.1, a1.2.1, ())) none fun d6 ↦ some (decide (d6 ≥ 0))
 else
 bif a1.1 == 4 then optC (G_check_Mutex (a0.1, a1.2.1, ())) none fun d6 ↦ some (decide (d6 ≥ 0))
 else
 bif a1.1 == 5 then
 optC (G_check_scope_cond (a0, a1.2.2.2.2.1, ())) none fun d6 ↦
 bif d6 then
 optC
 (L_check_scope_stmt_125_0_0
 (a1.2.2.2.2.2.1, (↑(List.length a1.2.2.2.2.2.1) : Int), 0, a0.1.1, a0.1.2.1, a0.1.2.2.1, a0.1.2.2.2, a0.2.1, a0.2.2.1,
 a0.2.2.2, a1.1, a1.2.1, a1.2.2.1.1, a1.2.2.1.2.1, a1.2.2.1.2.2.1, a1.2.2.1.2.2.2.1, a1.2.2.1.2.2.2.2,
 a1.2.2.2.1.1, a1.2.2.2.1.2.1, a1.2.2.2.1.2.2.1, a1.2.2.2.1.2.2.2.1, a1.2.2.2.1.2.2.2.2,
 a1.2.2.2.2.1.1, a1.2.2.2.2.1.2.1, a1.2.2.2.2.1.2.2.1, a1.2.2.2.2.1.2.2.2, a1.2.2.2.2.2.1,
 a1.2.2.2.2.2.2, a0.1.1, a0.1.2.1, a0.1.2.2.1, a0.1.2.2.2, a0.2))
 none fun d7 ↦
 Sum.elim
 (fun e8 ↦
 optC
 (L_check_scope_stmt_125_0_1
 (e8.2.2.2.2.2.2.2.2.2.2.2.2.2.2.2.2.2.2.2.2.2.2.2.2.1,
 (↑e8.2.2.2.2.2.2.2.2.2.2.2.2.2.2.2.2.2.2.2.2.2.2.2.2.1.length : Int), 0,
 e8.2.2.2.2.2.2.2.2.2.2.2.2.2.2.2.2.2.2.2.2.2.2.2.2.2.1,
 e8.2.2.2.2.2.2.2.2.2.2.2.2.2.2.2.2.2.2.2.2.2.2.2.2.2.2.1,
 e8.2.2.2.2.2.2.2.2.2.2.2.2.2.2.2.2.2.2.2.2.2.2.2.2.2.2.2.1,
 e8.2.2.2.2.2.2.2.2.2.2.2.2.2.2.2.2.2.2.2.2.2.2.2.2.2.2.2.2.1,
 e8.2.2.2.2.2.2.2.2.2.2.2.2.2.2.2.2.2.2.2.2.2.2.2.2.2.2.2.2.2.1,
 e8.2.2.2.2.2.2.2.2.2.2.2.2.2.2.2.2.2.2.2.2.2.2.2.2.2.2.2.2.2.2.1,
 e8.2.2.2.2.2.2.2.2.2.2.2.2.2.2.2.2.2.2.2.2.2.2.2.2.2.2.2.2.2.2.2, e8))
 none fun d9 ↦ Sum.elim (fun e10 ↦ some !decide (-1 ≥ 0)) (fun e10 ↦ some !decide (e10.1 ≥ 0)) d9)
 (fun e8 ↦
 bif !decide (e8.1 ≥ 0) then
 optC
 (L_check_scope_stmt_125_0_1
 (e8.2.2.2.2.2.2.2.2.2.2.2.2.2.2.2.2.2.2.2.2.2.2.2.2.2.1,
 (↑e8.2.2.2.2.2.2.2.2.2.2.2.2.2.2.2.2.2.2.2.2.2.2.2.2.2.1.length : Int), 0,
 e8.2.2.2.2.2.2.2.2.2.2.2.2.2.2.2.2.2.2.2.2.2.2.2.2.2.2.1,
 e8.2.2.2.2.2.2.2.2.2.2.2.2.2.2.2.2.2.2.2.2.2.2.2.2.2.2.2.1,
 e8.2.2.2.2.2.2.2.2.2.2.2.2.2.2.2.2.2.2.2.2.2.2.2.2.2.2.2.2.1,
 e8.2.2.2.2.2.2.2.2.2.2.2.2.2.2.2.2.2.2.2.2.2.2.2.2.2.2.2.2.2.1,
 e8.2.2.2.2.2.2.2.2.2.2.2.2.2.2.2.2.2.2.2.2.2.2.2.2.2.2.2.2.2.2.1,
 e8.2.2.2.2.2.2.2.2.2.2.2.2.2.2.2.2.2.2.2.2.2.2.2.2.2.2.2.2.2.2.2.1,
 e8.2.2.2.2.2.2.2.2.2.2.2.2.2.2.2.2.2.2.2.2.2.2.2.2.2.2.2.2.2.2.2.2, e8.2))
 none fun d9 ↦ Sum.elim (fun e10 ↦ some !decide (-1 ≥ 0)) (fun e10 ↦ some !decide (e10.1 ≥ 0)) d9
 else some false)
 d7
 else some false
 else
 bif a1.1 == 6 then
 optC (G_check_scope_cond (a0, a1.2.2.2.2.1, ())) none fun d6 ↦
 bif d6 then
 optC
 (L_check_scope_stmt_125_0_0
 (a1.2.2.2.2.2.1, (↑(List.length a1.2.2.2.2.2.1) : Int), 0, a0.1.1, a0.1.2.1, a0.1.2.2.1, a0.1.2.2.2, a0.2.1, a0.2.2.1,
 a0.2.2.2, a1.1, a1.2.1, a1.2.2.1.1, a1.2.2.1.2.1, a1.2.2.1.2.2.1, a1.2.2.1.2.2.2.1, a1.2.2.1.2.2.2.2,
 a1.2.2.2.1.1, a1.2.2.2.1.2.1, a1.2.2.2.1.2.2.1, a1.2.2.2.1.2.2.2.1, a1.2.2.2.1.2.2.2.2,
 a1.2.2.2.2.1.1, a1.2.2.2.2.1.2.1, a1.2.2.2.2.1.2.2.1, a1.2.2.2.2.1.2.2.2, a1.2.2.2.2.2.1,
 a1.2.2.2.2.2.2, a0.1.1, a0.1.2.1, a0.1.2.2.1, a0.1.2.2.2, a0.2))
 none fun d7 ↦ Sum.elim (fun e8 ↦ some !decide (-1 ≥ 0)) (fun e8 ↦ some !decide (e8.1 ≥ 0)) d7
 else some false
 else bif a1.1 == 7 then optC (G_check_scope_cond (a0, a1.2.2.2.2.1, ())) none fun d6 ↦ some d6 else some true
theorem raw_check_scope_stmt (a0 : (Pg × Th)) (a1 : Stm) : evGX1 (cxU sp_check_scope_stmt [lc_check_scope_stmt_125_0] 40 (1048576 ^ 9)) keeps 8 43 ash_check_scope_stmt (.dat .bool) ((a0, a1, ()) : ((Pg × Th) × (Stm × Unit))) = g_check_scope_stmt a0 a1 := by kernel_rfl
noncomputable def GI_check_scope_stmt (x : ((Pg × Th) × (Stm × Unit))) : Option Bool := g_check_scope_stmt x.1 x.2.1
noncomputable def conI_check_scope_stmt : List AV → Prog AV := conP true ash_check_scope_stmt (.dat .bool) GI_check_scope_stmt
theorem sndI_check_scope_stmt : SoundA Tryz.prog 43 conI_check_scope_stmt := conP_sound (evF1_sound (tabOk_of tab_ok) (cmpsOk_of tab_ok cmps_ok) mixed (inU sp_check_scope_stmt [lc_check_scope_stmt_125_0] 40 (1048576 ^ 9)) (hspL sp_check_scope_stmt) keeps 8 43) true (by rfl) (by rfl) (fun x r e => (evGX1_eq _ _ _ _ _ _ _).trans ((raw_check_scope_stmt x.1 x.2.1).trans e)) (.inl rfl)
end
noncomputable def it_check_scope_stmt : Nat → {K : ((Pg × Th) × (Stm × Unit)) → Option Bool // SoundA Tryz.prog 43 (conP true ash_check_scope_stmt (.dat .bool) K)}
  | 0 => ⟨fun _ => none, conP_none⟩
  | k + 1 => letI : Rec_check_scope_stmt := ⟨(it_check_scope_stmt k).1, (it_check_scope_stmt k).2⟩; ⟨GI_check_scope_stmt, sndI_check_scope_stmt⟩
noncomputable def G_check_scope_stmt (x : ((Pg × Th) × (Stm × Unit))) : Option Bool := (it_check_scope_stmt (SizeOf.sizeOf x + 1)).1 x
noncomputable def con_check_scope_stmt : List AV → Prog AV := conP true ash_check_scope_stmt (.dat .bool) G_check_scope_stmt
theorem snd_check_scope_stmt : SoundA Tryz.prog 43 con_check_scope_stmt := conP_pick (sh := ash_check_scope_stmt) (rs := .dat .bool) (n := fun x : ((Pg × Th) × (Stm × Unit)) => SizeOf.sizeOf x + 1) (F := fun k => (it_check_scope_stmt k).1) (fun k => (it_check_scope_stmt k).2)
end Go.Proofs.YtmjbedjnojcmfaaGreatDoor.Ex

namespace Go.Proofs.YtmjbedjnojcmfaaGreatDoor.Ex
open Go.Proofs Go.Proofs.YtmjbedjnojcmfaaGreatDoor
set_option maxRecDepth 100000
set_option maxHeartbeats 2000000
set_option linter.unusedVariables false
set_option linter.unusedSimpArgs false
def ash_check_Check : List Sh := [.dat tPg]
def kp_check_Check_125_0 : Nat → List Nat := fun c => bif c.beq 0 then [0, 1, 7, 8] else [4]
def kp_check_Check_124_0 : Nat → List Nat := fun c => bif c.beq 0 then [0, 1, 7, 8] else [4]
noncomputable def sp_check_Check : List Con := [⟨37, con_check_fits, snd_check_fits⟩, ⟨38, con_check_isForm, snd_check_isForm⟩, ⟨39, con_check_isAlone, snd_check_isAlone⟩, ⟨43, con_check_scope_stmt, snd_check_scope_stmt⟩]
def s_check_Check_125_0_0 : StS := ⟨[(0, .sl (.mu 2)), (1, .clo 92 [] [.ptr 4 0]), (7, .int .i64), (8, .int .i64)], [(4, .box [.clo 43 [.agg [.sl tGb, .sl tGb, .sl .str, .sl tTh, .str, .sl .str, .sl (.mu 2)]] []]), (3, .box [.str, .sl .str, .sl (.mu 2)]), (2, .box [.str, .sl .str, .sl (.mu 2)]), (1, .box [.clo 41 [] [.ptr 0 0]]), (0, .box [.sl tGb, .sl tGb, .sl .str, .sl tTh])], 5⟩
def x_check_Check_125_0_0_0 : StS := ⟨[(4, .undef)], [(4, .box [.clo 43 [.agg [.sl tGb, .sl tGb, .sl .str, .sl tTh, .str, .sl .str, .sl (.mu 2)]] []]), (3, .box [.str, .sl .str, .sl (.mu 2)]), (2, .box [.str, .sl .str, .sl (.mu 2)]), (1, .box [.clo 41 [] [.ptr 0 0]]), (0, .box [.sl tGb, .sl tGb, .sl .str, .sl tTh])], 5⟩
def x_check_Check_125_0_0_1 : StS := ⟨[(4, .int .i64)], [(4, .box [.clo 43 [.agg [.sl tGb, .sl tGb, .sl .str, .sl tTh, .str, .sl .str, .sl (.mu 2)]] []]), (3, .box [.str, .sl .str, .sl (.mu 2)]), (2, .box [.str, .sl .str, .sl (.mu 2)]), (1, .box [.clo 41 [] [.ptr 0 0]]), (0, .box [.sl tGb, .sl tGb, .sl .str, .sl tTh])], 5⟩
abbrev X_check_Check_125_0_0 := ((List (RT.C 2)) × Int × Int × (List Gb) × (List Gb) × (List ByteArray) × (List Th) × ByteArray × (List ByteArray) × (List (RT.C 2)) × ByteArray × (List ByteArray) × (List (RT.C 2)) × ByteArray × (List ByteArray) × (List (RT.C 2)) × (List Gb) × (List Gb) × (List ByteArray) × (List Th))
def fl_check_Check_125_0_0 (d : StD s_check_Check_125_0_0) : X_check_Check_125_0_0 := (d.1.1, d.1.2.2.1, d.1.2.2.2.1, d.2.1.1.1.1.1, d.2.1.1.1.1.2.1, d.2.1.1.1.1.2.2.1, d.2.1.1.1.1.2.2.2.1, d.2.1.1.1.1.2.2.2.2.1, d.2.1.1.1.1.2.2.2.2.2.1, d.2.1.1.1.1.2.2.2.2.2.2.1, d.2.2.1.1, d.2.2.1.2.1, d.2.2.1.2.2.1, d.2.2.2.1.1, d.2.2.2.1.2.1, d.2.2.2.1.2.2.1, d.2.2.2.2.2.1.1, d.2.2.2.2.2.1.2.1, d.2.2.2.2.2.1.2.2.1, d.2.2.2.2.2.1.2.2.2.1)
def un_check_Check_125_0_0 (x : X_check_Check_125_0_0) : StD s_check_Check_125_0_0 := ((x.1, ((), ((), ())), x.2.1, x.2.2.1, ()), (((((x.2.2.2.1, x.2.2.2.2.1, x.2.2.2.2.2.1, x.2.2.2.2.2.2.1, x.2.2.2.2.2.2.2.1, x.2.2.2.2.2.2.2.2.1, x.2.2.2.2.2.2.2.2.2.1, ()), ()), ()), ()), (x.2.2.2.2.2.2.2.2.2.2.1, x.2.2.2.2.2.2.2.2.2.2.2.1, x.2.2.2.2.2.2.2.2.2.2.2.2.1, ()), (x.2.2.2.2.2.2.2.2.2.2.2.2.2.1, x.2.2.2.2.2.2.2.2.2.2.2.2.2.2.1, x.2.2.2.2.2.2.2.2.2.2.2.2.2.2.2.1, ()), (((), ((), ())), ()), (x.2.2.2.2.2.2.2.2.2.2.2.2.2.2.2.2.1, x.2.2.2.2.2.2.2.2.2.2.2.2.2.2.2.2.2.1, x.2.2.2.2.2.2.2.2.2.2.2.2.2.2.2.2.2.2.1, x.2.2.2.2.2.2.2.2.2.2.2.2.2.2.2.2.2.2.2, ()), ()))
abbrev X_check_Check_125_0_0_0 := ((List Gb) × (List Gb) × (List ByteArray) × (List Th) × ByteArray × (List ByteArray) × (List (RT.C 2)) × ByteArray × (List ByteArray) × (List (RT.C 2)) × ByteArray × (List ByteArray) × (List (RT.C 2)) × (List Gb) × (List Gb) × (List ByteArray) × (List Th))
def fl_check_Check_125_0_0_0 (d : StD x_check_Check_125_0_0_0) : X_check_Check_125_0_0_0 := (d.2.1.1.1.1.1, d.2.1.1.1.1.2.1, d.2.1.1.1.1.2.2.1, d.2.1.1.1.1.2.2.2.1, d.2.1.1.1.1.2.2.2.2.1, d.2.1.1.1.1.2.2.2.2.2.1, d.2.1.1.1.1.2.2.2.2.2.2.1, d.2.2.1.1, d.2.2.1.2.1, d.2.2.1.2.2.1, d.2.2.2.1.1, d.2.2.2.1.2.1, d.2.2.2.1.2.2.1, d.2.2.2.2.2.1.1, d.2.2.2.2.2.1.2.1, d.2.2.2.2.2.1.2.2.1, d.2.2.2.2.2.1.2.2.2.1)
def un_check_Check_125_0_0_0 (x : X_check_Check_125_0_0_0) : StD x_check_Check_125_0_0_0 := (((), ()), (((((x.1, x.2.1, x.2.2.1, x.2.2.2.1, x.2.2.2.2.1, x.2.2.2.2.2.1, x.2.2.2.2.2.2.1, ()), ()), ()), ()), (x.2.2.2.2.2.2.2.1, x.2.2.2.2.2.2.2.2.1, x.2.2.2.2.2.2.2.2.2.1, ()), (x.2.2.2.2.2.2.2.2.2.2.1, x.2.2.2.2.2.2.2.2.2.2.2.1, x.2.2.2.2.2.2.2.2.2.2.2.2.1, ()), (((), ((), ())), ()), (x.2.2.2.2.2.2.2.2.2.2.2.2.2.1, x.2.2.2.2.2.2.2.2.2.2.2.2.2.2.1, x.2.2.2.2.2.2.2.2.2.2.2.2.2.2.2.1, x.2.2.2.2.2.2.2.2.2.2.2.2.2.2.2.2, ()), ()))
abbrev X_check_Check_125_0_0_1 := (Int × (List Gb) × (List Gb) × (List ByteArray) × (List Th) × ByteArray × (List ByteArray) × (List (RT.C 2)) × ByteArray × (List ByteArray) × (List (RT.C 2)) × ByteArray × (List ByteArray) × (List (RT.C 2)) × (List Gb) × (List Gb) × (List ByteArray) × (List Th))
def fl_check_Check_125_0_0_1 (d : StD x_check_Check_125_0_0_1) : X_check_Check_125_0_0_1 := (d.1.1, d.2.1.1.1.1.1, d.2.1.1.1.1.2.1, d.2.1.1.1.1.2.2.1, d.2.1.1.1.1.2.2.2.1, d.2.1.1.1.1.2.2.2.2.1, d.2.1.1.1.1.2.2.2.2.2.1, d.2.1.1.1.1.2.2.2.2.2.2.1, d.2.2.1.1, d.2.2.1.2.1, d.2.2.1.2.2.1, d.2.2.2.1.1, d.2.2.2.1.2.1, d.2.2.2.1.2.2.1, d.2.2.2.2.2.1.1, d.2.2.2.2.2.1.2.1, d.2.2.2.2.2.1.2.2.1, d.2.2.2.2.2.1.2.2.2.1)
def un_check_Check_125_0_0_1 (x : X_check_Check_125_0_0_1) : StD x_check_Check_125_0_0_1 := ((x.1, ()), (((((x.2.1, x.2.2.1, x.2.2.2.1, x.2.2.2.2.1, x.2.2.2.2.2.1, x.2.2.2.2.2.2.1, x.2.2.2.2.2.2.2.1, ()), ()), ()), ()), (x.2.2.2.2.2.2.2.2.1, x.2.2.2.2.2.2.2.2.2.1, x.2.2.2.2.2.2.2.2.2.2.1, ()), (x.2.2.2.2.2.2.2.2.2.2.2.1, x.2.2.2.2.2.2.2.2.2.2.2.2.1, x.2.2.2.2.2.2.2.2.2.2.2.2.2.1, ()), (((), ((), ())), ()), (x.2.2.2.2.2.2.2.2.2.2.2.2.2.2.1, x.2.2.2.2.2.2.2.2.2.2.2.2.2.2.2.1, x.2.2.2.2.2.2.2.2.2.2.2.2.2.2.2.2.1, x.2.2.2.2.2.2.2.2.2.2.2.2.2.2.2.2.2, ()), ()))
noncomputable def st_check_Check_125_0_0 (s0 : (List (RT.C 2))) (s7 : Int) (s8 : Int) (b4 : (List Gb)) (b4_1 : (List Gb)) (b4_2 : (List ByteArray)) (b4_3 : (List Th)) (b4_4 : ByteArray) (b4_5 : (List ByteArray)) (b4_6 : (List (RT.C 2))) (b3 : ByteArray) (b3_1 : (List ByteArray)) (b3_2 : (List (RT.C 2))) (b2 : ByteArray) (b2_1 : (List ByteArray)) (b2_2 : (List (RT.C 2))) (b0 : (List Gb)) (b0_1 : (List Gb)) (b0_2 : (List ByteArray)) (b0_3 : (List Th)) : Option (((List (RT.C 2)) × Int × Int × (List Gb) × (List Gb) × (List ByteArray) × (List Th) × ByteArray × (List ByteArray) × (List (RT.C 2)) × ByteArray × (List ByteArray) × (List (RT.C 2)) × ByteArray × (List ByteArray) × (List (RT.C 2)) × (List Gb) × (List Gb) × (List ByteArray) × (List Th)) ⊕ (((List Gb) × (List Gb) × (List ByteArray) × (List Th) × ByteArray × (List ByteArray) × (List (RT.C 2)) × ByteArray × (List ByteArray) × (List (RT.C 2)) × ByteArray × (List ByteArray) × (List (RT.C 2)) × (List Gb) × (List Gb) × (List ByteArray) × (List Th)) ⊕ (Int × (List Gb) × (List Gb) × (List ByteArray) × (List Th) × ByteArray × (List ByteArray) × (List (RT.C 2)) × ByteArray × (List ByteArray) × (List (RT.C 2)) × ByteArray × (List ByteArray) × (List (RT.C 2)) × (List Gb) × (List Gb) × (List ByteArray) × (List Th)))) :=
  bif decide (s8 < s7) then
 bif decide (0 ≤ s8) then
 optC s0[s8.toNat]? none fun d23 ↦
 optC (G_check_scope_stmt (((b4, b4_1, b4_2, b4_3), b4_4, b4_5, b4_6), uT2 d23, ())) none fun d24 ↦
 bif !d24 then some (Sum.inr (Sum.inr (s8, b4, b4_1, b4_2, b4_3, b4_4, b4_5, b4_6, b3, b3_1, b3_2, b2, b2_1, b2_2, b0, b0_1, b0_2, b0_3)))
 else some (Sum.inl (s0, s7, Go.IntKind.i64.wrap (s8 + 1), b4, b4_1, b4_2, b4_3, b4_4, b4_5, b4_6, b3, b3_1, b3_2, b2, b2_1, b2_2, b0, b0_1, b0_2, b0_3))
 else none
 else some (Sum.inr (Sum.inl (b4, b4_1, b4_2, b4_3, b4_4, b4_5, b4_6, b3, b3_1, b3_2, b2, b2_1, b2_2, b0, b0_1, b0_2, b0_3)))
noncomputable def sx_check_Check_125_0_0 (x : X_check_Check_125_0_0) : Option (X_check_Check_125_0_0 ⊕ (X_check_Check_125_0_0_0 ⊕ X_check_Check_125_0_0_1)) := st_check_Check_125_0_0 x.1 x.2.1 x.2.2.1 x.2.2.2.1 x.2.2.2.2.1 x.2.2.2.2.2.1 x.2.2.2.2.2.2.1 x.2.2.2.2.2.2.2.1 x.2.2.2.2.2.2.2.2.1 x.2.2.2.2.2.2.2.2.2.1 x.2.2.2.2.2.2.2.2.2.2.1 x.2.2.2.2.2.2.2.2.2.2.2.1 x.2.2.2.2.2.2.2.2.2.2.2.2.1 x.2.2.2.2.2.2.2.2.2.2.2.2.2.1 x.2.2.2.2.2.2.2.2.2.2.2.2.2.2.1 x.2.2.2.2.2.2.2.2.2.2.2.2.2.2.2.1 x.2.2.2.2.2.2.2.2.2.2.2.2.2.2.2.2.1 x.2.2.2.2.2.2.2.2.2.2.2.2.2.2.2.2.2.1 x.2.2.2.2.2.2.2.2.2.2.2.2.2.2.2.2.2.2.1 x.2.2.2.2.2.2.2.2.2.2.2.2.2.2.2.2.2.2.2
theorem rn_check_Check_125_0_0 (x : X_check_Check_125_0_0) : rdX (cxU sp_check_Check [] 40 1048576) keeps 8 ⟨125, 19, keeps 125, 5⟩ 0 (bodyX 125 0) 5 kp_check_Check_125_0 (sT s_check_Check_125_0_0 (un_check_Check_125_0_0 x)) (sH s_check_Check_125_0_0 (un_check_Check_125_0_0 x)) (rdO (fun T h => (rdS s_check_Check_125_0_0 T h).map fl_check_Check_125_0_0) (getOr (getE 2 x_check_Check_125_0_0_0 fl_check_Check_125_0_0_0) (getE 1 x_check_Check_125_0_0_1 fl_check_Check_125_0_0_1))) = sx_check_Check_125_0_0 x := by kernel_rfl
noncomputable def L_check_Check_125_0_0 (x : X_check_Check_125_0_0) : Option (X_check_Check_125_0_0_0 ⊕ X_check_Check_125_0_0_1) := iterO (fun x => st_check_Check_125_0_0 x.1 x.2.1 x.2.2.1 x.2.2.2.1 x.2.2.2.2.1 x.2.2.2.2.2.1 x.2.2.2.2.2.2.1 x.2.2.2.2.2.2.2.1 x.2.2.2.2.2.2.2.2.1 x.2.2.2.2.2.2.2.2.2.1 x.2.2.2.2.2.2.2.2.2.2.1 x.2.2.2.2.2.2.2.2.2.2.2.1 x.2.2.2.2.2.2.2.2.2.2.2.2.1 x.2.2.2.2.2.2.2.2.2.2.2.2.2.1 x.2.2.2.2.2.2.2.2.2.2.2.2.2.2.1 x.2.2.2.2.2.2.2.2.2.2.2.2.2.2.2.1 x.2.2.2.2.2.2.2.2.2.2.2.2.2.2.2.2.1 x.2.2.2.2.2.2.2.2.2.2.2.2.2.2.2.2.2.1 x.2.2.2.2.2.2.2.2.2.2.2.2.2.2.2.2.2.2.1 x.2.2.2.2.2.2.2.2.2.2.2.2.2.2.2.2.2.2.2) FUEL x
noncomputable def q_check_Check_125_0 : Nat → Tm → Prog (Nat × Tm) := (varP 5 (fun T h => (rdS s_check_Check_125_0_0 T h).map fl_check_Check_125_0_0) L_check_Check_125_0_0 (fun y => .alt y (altE 2 x_check_Check_125_0_0_0 un_check_Check_125_0_0_0) (altE 1 x_check_Check_125_0_0_1 un_check_Check_125_0_0_1)) (fun _ _ => .fail))
noncomputable def lc_check_Check_125_0 : Lpc := ⟨125, 0, 19, (fun base T => .norm base (kp_check_Check_125_0 0) T (q_check_Check_125_0 base)), by kernel_rfl, by kernel_rfl, (loopU sp_check_Check [] 40 1048576 8 (keep := kp_check_Check_125_0) (q := q_check_Check_125_0) (by kernel_rfl) (varX_ok (s := s_check_Check_125_0_0) (un := un_check_Check_125_0_0) (by rfl) (fun _ => rfl) (getOr_ok (getE_ok (s := x_check_Check_125_0_0_0) (un := un_check_Check_125_0_0_0) (by rfl) (fun _ => rfl)) (getE_ok (s := x_check_Check_125_0_0_1) (un := un_check_Check_125_0_0_1) (by rfl) (fun _ => rfl))) (step := sx_check_Check_125_0_0) rn_check_Check_125_0_0 (fun _ _ e => ⟨_, e⟩) (altOr_ok (altE_ok 2 x_check_Check_125_0_0_0 un_check_Check_125_0_0_0) (altE_ok 1 x_check_Check_125_0_0_1 un_check_Check_125_0_0_1)) (VarOk.fail _ _)))⟩
noncomputable abbrev cx_check_Check_124_0 := cxU sp_check_Check [lc_check_Check_125_0] 40 1048576
def s_check_Check_124_0_0 : StS := ⟨[(0, .sl tTh), (1, .clo 90 [] [.ptr 1 0]), (7, .int .i64), (8, .int .i64)], [(1, .box [.clo 41 [] [.ptr 0 0]]), (0, .box [.sl tGb, .sl tGb, .sl .str, .sl tTh])], 2⟩
def x_check_Check_124_0_0_0 : StS := ⟨[(4, .undef)], [(1, .box [.clo 41 [] [.ptr 0 0]]), (0, .box [.sl tGb, .sl tGb, .sl .str, .sl tTh])], 2⟩
def x_check_Check_124_0_0_1 : StS := ⟨[(4, .int .i64)], [(1, .box [.clo 41 [] [.ptr 0 0]]), (0, .box [.sl tGb, .sl tGb, .sl .str, .sl tTh])], 2⟩
abbrev X_check_Check_124_0_0 := ((List Th) × Int × Int × (List Gb) × (List Gb) × (List ByteArray) × (List Th))
def fl_check_Check_124_0_0 (d : StD s_check_Check_124_0_0) : X_check_Check_124_0_0 := (d.1.1, d.1.2.2.1, d.1.2.2.2.1, d.2.2.1.1, d.2.2.1.2.1, d.2.2.1.2.2.1, d.2.2.1.2.2.2.1)
def un_check_Check_124_0_0 (x : X_check_Check_124_0_0) : StD s_check_Check_124_0_0 := ((x.1, ((), ((), ())), x.2.1, x.2.2.1, ()), ((((), ((), ())), ()), (x.2.2.2.1, x.2.2.2.2.1, x.2.2.2.2.2.1, x.2.2.2.2.2.2, ()), ()))
abbrev X_check_Check_124_0_0_0 := ((List Gb) × (List Gb) × (List ByteArray) × (List Th))
def fl_check_Check_124_0_0_0 (d : StD x_check_Check_124_0_0_0) : X_check_Check_124_0_0_0 := (d.2.2.1.1, d.2.2.1.2.1, d.2.2.1.2.2.1, d.2.2.1.2.2.2.1)
def un_check_Check_124_0_0_0 (x : X_check_Check_124_0_0_0) : StD x_check_Check_124_0_0_0 := (((), ()), ((((), ((), ())), ()), (x.1, x.2.1, x.2.2.1, x.2.2.2, ()), ()))
abbrev X_check_Check_124_0_0_1 := (Int × (List Gb) × (List Gb) × (List ByteArray) × (List Th))
def fl_check_Check_124_0_0_1 (d : StD x_check_Check_124_0_0_1) : X_check_Check_124_0_0_1 := (d.1.1, d.2.2.1.1, d.2.2.1.2.1, d.2.2.1.2.2.1, d.2.2.1.2.2.2.1)
def un_check_Check_124_0_0_1 (x : X_check_Check_124_0_0_1) : StD x_check_Check_124_0_0_1 := ((x.1, ()), ((((), ((), ())), ()), (x.2.1, x.2.2.1, x.2.2.2.1, x.2.2.2.2, ()), ()))
noncomputable def st_check_Check_124_0_0 (s0 : (List Th)) (s7 : Int) (s8 : Int) (b0 : (List Gb)) (b0_1 : (List Gb)) (b0_2 : (List ByteArray)) (b0_3 : (List Th)) : Option (((List Th) × Int × Int × (List Gb) × (List Gb) × (List ByteArray) × (List Th)) ⊕ (((List Gb) × (List Gb) × (List ByteArray) × (List Th)) ⊕ (Int × (List Gb) × (List Gb) × (List ByteArray) × (List Th)))) :=
  bif decide (s8 < s7) then
 bif decide (0 ≤ s8) then
 optC s0[s8.toNat]? none fun d10 ↦
 optC
 (L_check_Check_125_0_0
 (d10.2.2, (↑(List.length d10.2.2) : Int), 0, b0, b0_1, b0_2, b0_3, d10.1, d10.2.1, d10.2.2, d10.1, d10.2.1, d10.2.2, d10.1, d10.2.1, d10.2.2, b0, b0_1,
 b0_2, b0_3))
 none fun d11 ↦
 Sum.elim
 (fun e12 ↦
 some
 (Sum.inl
 (s0, s7, Go.IntKind.i64.wrap (s8 + 1), e12.2.2.2.2.2.2.2.2.2.2.2.2.2.1, e12.2.2.2.2.2.2.2.2.2.2.2.2.2.2.1,
 e12.2.2.2.2.2.2.2.2.2.2.2.2.2.2.2.1, e12.2.2.2.2.2.2.2.2.2.2.2.2.2.2.2.2)))
 (fun e12 ↦
 bif !!decide (e12.1 ≥ 0) then
 some
 (Sum.inr
 (Sum.inr
 (s8, e12.2.2.2.2.2.2.2.2.2.2.2.2.2.2.1, e12.2.2.2.2.2.2.2.2.2.2.2.2.2.2.2.1,
 e12.2.2.2.2.2.2.2.2.2.2.2.2.2.2.2.2.1, e12.2.2.2.2.2.2.2.2.2.2.2.2.2.2.2.2.2)))
 else
 some
 (Sum.inl
 (s0, s7, Go.IntKind.i64.wrap (s8 + 1), e12.2.2.2.2.2.2.2.2.2.2.2.2.2.2.1, e12.2.2.2.2.2.2.2.2.2.2.2.2.2.2.2.1,
 e12.2.2.2.2.2.2.2.2.2.2.2.2.2.2.2.2.1, e12.2.2.2.2.2.2.2.2.2.2.2.2.2.2.2.2.2)))
 d11
 else none
 else some (Sum.inr (Sum.inl (b0, b0_1, b0_2, b0_3)))
noncomputable def sx_check_Check_124_0_0 (x : X_check_Check_124_0_0) : Option (X_check_Check_124_0_0 ⊕ (X_check_Check_124_0_0_0 ⊕ X_check_Check_124_0_0_1)) := st_check_Check_124_0_0 x.1 x.2.1 x.2.2.1 x.2.2.2.1 x.2.2.2.2.1 x.2.2.2.2.2.1 x.2.2.2.2.2.2
theorem rn_check_Check_124_0_0 (x : X_check_Check_124_0_0) : rdX cx_check_Check_124_0 keeps 8 ⟨124, 19, keeps 124, 2⟩ 0 (bodyX 124 0) 2 kp_check_Check_124_0 (sT s_check_Check_124_0_0 (un_check_Check_124_0_0 x)) (sH s_check_Check_124_0_0 (un_check_Check_124_0_0 x)) (rdO (fun T h => (rdS s_check_Check_124_0_0 T h).map fl_check_Check_124_0_0) (getOr (getE 2 x_check_Check_124_0_0_0 fl_check_Check_124_0_0_0) (getE 1 x_check_Check_124_0_0_1 fl_check_Check_124_0_0_1))) = sx_check_Check_124_0_0 x := by kernel_rfl
noncomputable def L_check_Check_124_0_0 (x : X_check_Check_124_0_0) : Option (X_check_Check_124_0_0_0 ⊕ X_check_Check_124_0_0_1) := iterO (fun x => st_check_Check_124_0_0 x.1 x.2.1 x.2.2.1 x.2.2.2.1 x.2.2.2.2.1 x.2.2.2.2.2.1 x.2.2.2.2.2.2) FUEL x
noncomputable def q_check_Check_124_0 : Nat → Tm → Prog (Nat × Tm) := (varP 2 (fun T h => (rdS s_check_Check_124_0_0 T h).map fl_check_Check_124_0_0) L_check_Check_124_0_0 (fun y => .alt y (altE 2 x_check_Check_124_0_0_0 un_check_Check_124_0_0_0) (altE 1 x_check_Check_124_0_0_1 un_check_Check_124_0_0_1)) (fun _ _ => .fail))
noncomputable def lc_check_Check_124_0 : Lpc := ⟨124, 0, 19, (fun base T => .norm base (kp_check_Check_124_0 0) T (q_check_Check_124_0 base)), by kernel_rfl, by kernel_rfl, (loopU sp_check_Check [lc_check_Check_125_0] 40 1048576 8 (keep := kp_check_Check_124_0) (q := q_check_Check_124_0) (by kernel_rfl) (varX_ok (s := s_check_Check_124_0_0) (un := un_check_Check_124_0_0) (by rfl) (fun _ => rfl) (getOr_ok (getE_ok (s := x_check_Check_124_0_0_0) (un := un_check_Check_124_0_0_0) (by rfl) (fun _ => rfl)) (getE_ok (s := x_check_Check_124_0_0_1) (un := un_check_Check_124_0_0_1) (by rfl) (fun _ => rfl))) (step := sx_check_Check_124_0_0) rn_check_Check_124_0_0 (fun _ _ e => ⟨_, e⟩) (altOr_ok (altE_ok 2 x_check_Check_124_0_0_0 un_check_Check_124_0_0_0) (altE_ok 1 x_check_Check_124_0_0_1 un_check_Check_124_0_0_1)) (VarOk.fail _ _)))⟩
noncomputable def g_check_Check (a0 : Pg) : Option Int :=
  optC (G_check_fits (a0, ())) none fun d4 ↦
 bif !d4 then some 4
 else
 optC (G_check_isForm (a0, ())) none fun d5 ↦
 bif !d5 then some 2
 else
 optC (G_check_isAlone (a0, ())) none fun d6 ↦
 bif !d6 then some 5
 else
 optC (L_check_Check_124_0_0 (a0.2.2.2, (↑(List.length a0.2.2.2) : Int), 0, a0)) none fun d7 ↦
 Sum.elim (fun e8 ↦ some 0) (fun e8 ↦ bif !!decide (e8.1 ≥ 0) then some 6 else some 0) d7
theorem raw_check_Check (a0 : Pg) : evGX (cxU sp_check_Check [lc_check_Check_125_0, lc_check_Check_124_0] 40 1048576) keeps 8 11 ash_check_Check (.dat (.int .i64)) ((a0, ()) : (Pg × Unit)) = g_check_Check a0 := by kernel_rfl
noncomputable def G_check_Check (x : (Pg × Unit)) : Option Int := g_check_Check x.1
noncomputable def con_check_Check : List AV → Prog AV := conP false ash_check_Check (.dat (.int .i64)) G_check_Check
theorem snd_check_Check : SoundA Tryz.prog 11 con_check_Check := conP_sound (calU sp_check_Check [lc_check_Check_125_0, lc_check_Check_124_0] 40 1048576 8 11) false (by rfl) (by rfl) (fun x r e => (evGX_eq _ _ _ _ _ _ _).trans ((raw_check_Check x.1).trans e)) (.inr fun _ => rfl)
end Go.Proofs.YtmjbedjnojcmfaaGreatDoor.Ex

namespace Go.Proofs.YtmjbedjnojcmfaaGreatDoor.Ex
open Go.Proofs Go.Proofs.YtmjbedjnojcmfaaGreatDoor
set_option maxRecDepth 100000
set_option maxHeartbeats 2000000
set_option linter.unusedVariables false
set_option linter.unusedSimpArgs false
def ash_law8_known : List Sh := []
noncomputable def sp_law8_known : List Con := [⟨26, con_cfg_Is, snd_cfg_Is⟩, ⟨11, con_check_Check, snd_check_Check⟩, ⟨9, con_check_Local, snd_check_Local⟩, ⟨13, con_check_Global, snd_check_Global⟩, ⟨15, con_check_Array, snd_check_Array⟩, ⟨17, con_check_Mutex, snd_check_Mutex⟩]
noncomputable def g_law8_known  : Option Bool :=
  some !decide (-1 ≥ 0)
theorem raw_law8_known  : evGX (cxU sp_law8_known [] 60 (1048576 ^ 9)) keeps 16 24 ash_law8_known (.dat .bool) (() : Unit) = g_law8_known  := by kernel_rfl
noncomputable def G_law8_known (x : Unit) : Option Bool := g_law8_known 
noncomputable def con_law8_known : List AV → Prog AV := conP true ash_law8_known (.dat .bool) G_law8_known
theorem snd_law8_known : SoundA Tryz.prog 24 con_law8_known := conP_sound (calU sp_law8_known [] 60 (1048576 ^ 9) 16 24) true (by rfl) (by rfl) (fun x r e => (evGX_eq _ _ _ _ _ _ _).trans ((raw_law8_known ).trans e)) (.inl rfl)
end Go.Proofs.YtmjbedjnojcmfaaGreatDoor.Ex

namespace Go.Proofs.YtmjbedjnojcmfaaGreatDoor.Ex
open Go.Proofs Go.Proofs.YtmjbedjnojcmfaaGreatDoor
set_option maxRecDepth 100000
set_option maxHeartbeats 2000000
set_option linter.unusedVariables false
set_option linter.unusedSimpArgs false
def ash_law8_CfgHeads : List Sh := [.dat tU]
def kp_law8_CfgHeads_7_0 : Nat → List Nat := fun c => bif c.beq 0 then [1, 3] else [1, 2]
noncomputable def sp_law8_CfgHeads : List Con := [⟨25, con_law8_wide, snd_law8_wide⟩, ⟨27, con_ref8_Is, snd_ref8_Is⟩, ⟨31, con_cfg_Heads, snd_cfg_Heads⟩, ⟨32, con_ref8_Heads, snd_ref8_Heads⟩, ⟨30, con_ref8_Ints, snd_ref8_Ints⟩, ⟨29, con_cfg_Steps, snd_cfg_Steps⟩, ⟨33, con_ref8_Steps, snd_ref8_Steps⟩, ⟨24, con_law8_known, snd_law8_known⟩]
def s_law8_CfgHeads_7_0_0 : StS := ⟨[(1, .ptr 0 0), (3, .int .i64)], [(0, .box [.sl (.int .i64), .sl (.int .i64), .int .i64, .sl tC])], 1⟩
def x_law8_CfgHeads_7_0_0_0 : StS := ⟨[(1, .ptr 0 0), (2, .undef)], [(0, .box [.sl (.int .i64), .sl (.int .i64), .int .i64, .sl tC])], 1⟩
def x_law8_CfgHeads_7_0_0_1 : StS := ⟨[(1, .ptr 0 0), (2, .bool)], [(0, .box [.sl (.int .i64), .sl (.int .i64), .int .i64, .sl tC])], 1⟩
abbrev X_law8_CfgHeads_7_0_0 := (Int × (List Int) × (List Int) × Int × (List C))
def fl_law8_CfgHeads_7_0_0 (d : StD s_law8_CfgHeads_7_0_0) : X_law8_CfgHeads_7_0_0 := (d.1.2.1, d.2.1.1, d.2.1.2.1, d.2.1.2.2.1, d.2.1.2.2.2.1)
def un_law8_CfgHeads_7_0_0 (x : X_law8_CfgHeads_7_0_0) : StD s_law8_CfgHeads_7_0_0 := (((), x.1, ()), ((x.2.1, x.2.2.1, x.2.2.2.1, x.2.2.2.2, ()), ()))
abbrev X_law8_CfgHeads_7_0_0_0 := ((List Int) × (List Int) × Int × (List C))
def fl_law8_CfgHeads_7_0_0_0 (d : StD x_law8_CfgHeads_7_0_0_0) : X_law8_CfgHeads_7_0_0_0 := (d.2.1.1, d.2.1.2.1, d.2.1.2.2.1, d.2.1.2.2.2.1)
def un_law8_CfgHeads_7_0_0_0 (x : X_law8_CfgHeads_7_0_0_0) : StD x_law8_CfgHeads_7_0_0_0 := (((), (), ()), ((x.1, x.2.1, x.2.2.1, x.2.2.2, ()), ()))
abbrev X_law8_CfgHeads_7_0_0_1 := (Bool × (List Int) × (List Int) × Int × (List C))
def fl_law8_CfgHeads_7_0_0_1 (d : StD x_law8_CfgHeads_7_0_0_1) : X_law8_CfgHeads_7_0_0_1 := (d.1.2.1, d.2.1.1, d.2.1.2.1, d.2.1.2.2.1, d.2.1.2.2.2.1)
def un_law8_CfgHeads_7_0_0_1 (x : X_law8_CfgHeads_7_0_0_1) : StD x_law8_CfgHeads_7_0_0_1 := (((), x.1, ()), ((x.2.1, x.2.2.1, x.2.2.2.1, x.2.2.2.2, ()), ()))
noncomputable def st_law8_CfgHeads_7_0_0 (s3 : Int) (b0 : (List Int)) (b0_1 : (List Int)) (b0_2 : Int) (b0_3 : (List C)) : Option ((Int × (List Int) × (List Int) × Int × (List C)) ⊕ (((List Int) × (List Int) × Int × (List C)) ⊕ (Bool × (List Int) × (List Int) × Int × (List C)))) :=
  bif decide (s3 < (↑b0_3.length : Int)) then
 bif decide (0 ≤ s3) then
 optC b0_3[s3.toNat]? none fun d7 ↦
 optC (G_cfg_Heads (d7, ())) none fun d8 ↦
 bif decide (0 ≤ s3) then
 optC b0_3[s3.toNat]? none fun d9 ↦
 optC (G_ref8_Heads (d9, ())) none fun d10 ↦
 optC (G_ref8_Ints (d8, d10, ())) none fun d11 ↦
 bif !d11 then some (Sum.inr (Sum.inr (false, b0, b0_1, b0_2, b0_3))) else some (Sum.inl (Go.IntKind.i64.wrap (s3 + 1), b0, b0_1, b0_2, b0_3))
 else none
 else none
 else some (Sum.inr (Sum.inl (b0, b0_1, b0_2, b0_3)))
noncomputable def sx_law8_CfgHeads_7_0_0 (x : X_law8_CfgHeads_7_0_0) : Option (X_law8_CfgHeads_7_0_0 ⊕ (X_law8_CfgHeads_7_0_0_0 ⊕ X_law8_CfgHeads_7_0_0_1)) := st_law8_CfgHeads_7_0_0 x.1 x.2.1 x.2.2.1 x.2.2.2.1 x.2.2.2.2
theorem rn_law8_CfgHeads_7_0_0 (x : X_law8_CfgHeads_7_0_0) : rdX (cxU sp_law8_CfgHeads [] 40 1048576) keeps 8 ⟨7, 40, keeps 7, 0⟩ 0 (bodyX 7 0) 0 kp_law8_CfgHeads_7_0 (sT s_law8_CfgHeads_7_0_0 (un_law8_CfgHeads_7_0_0 x)) (sH s_law8_CfgHeads_7_0_0 (un_law8_CfgHeads_7_0_0 x)) (rdO (fun T h => (rdS s_law8_CfgHeads_7_0_0 T h).map fl_law8_CfgHeads_7_0_0) (getOr (getE 2 x_law8_CfgHeads_7_0_0_0 fl_law8_CfgHeads_7_0_0_0) (getE 1 x_law8_CfgHeads_7_0_0_1 fl_law8_CfgHeads_7_0_0_1))) = sx_law8_CfgHeads_7_0_0 x := by kernel_rfl
noncomputable def L_law8_CfgHeads_7_0_0 (x : X_law8_CfgHeads_7_0_0) : Option (X_law8_CfgHeads_7_0_0_0 ⊕ X_law8_CfgHeads_7_0_0_1) := iterO (fun x => st_law8_CfgHeads_7_0_0 x.1 x.2.1 x.2.2.1 x.2.2.2.1 x.2.2.2.2) FUEL x
noncomputable def q_law8_CfgHeads_7_0 : Nat → Tm → Prog (Nat × Tm) := (varP 0 (fun T h => (rdS s_law8_CfgHeads_7_0_0 T h).map fl_law8_CfgHeads_7_0_0) L_law8_CfgHeads_7_0_0 (fun y => .alt y (altE 2 x_law8_CfgHeads_7_0_0_0 un_law8_CfgHeads_7_0_0_0) (altE 1 x_law8_CfgHeads_7_0_0_1 un_law8_CfgHeads_7_0_0_1)) (fun _ _ => .fail))
noncomputable def lc_law8_CfgHeads_7_0 : Lpc := ⟨7, 0, 40, (fun base T => .norm base (kp_law8_CfgHeads_7_0 0) T (q_law8_CfgHeads_7_0 base)), by kernel_rfl, by kernel_rfl, (loopU sp_law8_CfgHeads [] 40 1048576 8 (keep := kp_law8_CfgHeads_7_0) (q := q_law8_CfgHeads_7_0) (by kernel_rfl) (varX_ok (s := s_law8_CfgHeads_7_0_0) (un := un_law8_CfgHeads_7_0_0) (by rfl) (fun _ => rfl) (getOr_ok (getE_ok (s := x_law8_CfgHeads_7_0_0_0) (un := un_law8_CfgHeads_7_0_0_0) (by rfl) (fun _ => rfl)) (getE_ok (s := x_law8_CfgHeads_7_0_0_1) (un := un_law8_CfgHeads_7_0_0_1) (by rfl) (fun _ => rfl))) (step := sx_law8_CfgHeads_7_0_0) rn_law8_CfgHeads_7_0_0 (fun _ _ e => ⟨_, e⟩) (altOr_ok (altE_ok 2 x_law8_CfgHeads_7_0_0_0 un_law8_CfgHeads_7_0_0_0) (altE_ok 1 x_law8_CfgHeads_7_0_0_1 un_law8_CfgHeads_7_0_0_1)) (VarOk.fail _ _)))⟩
noncomputable def g_law8_CfgHeads (a0 : U) : Option Bool :=
  optC (G_law8_wide (a0, ())) none fun d3 ↦
 bif d3 then some true
 else
 optC (G_ref8_Is (a0, ())) none fun d4 ↦
 bif !d4 then some true
 else
 optC (L_law8_CfgHeads_7_0_0 (0, a0)) none fun d5 ↦
 Sum.elim
 (fun e6 ↦
 optC (G_cfg_Steps (e6, ())) none fun d7 ↦
 optC (G_ref8_Steps (e6, ())) none fun d8 ↦
 optC (G_ref8_Ints (d7, d8, ())) none fun d9 ↦ bif d9 then some !decide (-1 ≥ 0) else some false)
 (fun e6 ↦ some e6.1) d5
theorem raw_law8_CfgHeads (a0 : U) : evGX (cxU sp_law8_CfgHeads [lc_law8_CfgHeads_7_0] 40 1048576) keeps 8 7 ash_law8_CfgHeads (.dat .bool) ((a0, ()) : (U × Unit)) = g_law8_CfgHeads a0 := by kernel_rfl
noncomputable def G_law8_CfgHeads (x : (U × Unit)) : Option Bool := g_law8_CfgHeads x.1
noncomputable def con_law8_CfgHeads : List AV → Prog AV := conP true ash_law8_CfgHeads (.dat .bool) G_law8_CfgHeads
theorem snd_law8_CfgHeads : SoundA Tryz.prog 7 con_law8_CfgHeads := conP_sound (calU sp_law8_CfgHeads [lc_law8_CfgHeads_7_0] 40 1048576 8 7) true (by rfl) (by rfl) (fun x r e => (evGX_eq _ _ _ _ _ _ _).trans ((raw_law8_CfgHeads x.1).trans e)) (.inl rfl)
end Go.Proofs.YtmjbedjnojcmfaaGreatDoor.Ex

namespace Go.Proofs.YtmjbedjnojcmfaaGreatDoor.Ex
set_option maxRecDepth 100000
set_option maxHeartbeats 2000000
set_option linter.unusedVariables false
set_option linter.unusedSimpArgs false
noncomputable def bd_law8_CfgHeads_7_0_0 (b0 : (List Int)) (b0_1 : (List Int)) (b0_2 : Int) (b0_3 : (List C)) (i : Nat)  (d : C) : Option (Unit ⊕ (X_law8_CfgHeads_7_0_0_0 ⊕ X_law8_CfgHeads_7_0_0_1)) :=
  optC (G_cfg_Heads (d, ())) (none) fun d8 ↦
   optC (G_ref8_Heads (d, ())) (none) fun d10 ↦
   optC (G_ref8_Ints (d8, d10, ())) (none) fun d11 ↦
   bif !d11 then
   some (Sum.inr (Sum.inr (false, b0, b0_1, b0_2, b0_3)))
 else some (Sum.inl ())
noncomputable def fn_law8_CfgHeads_7_0_0 (b0 : (List Int)) (b0_1 : (List Int)) (b0_2 : Int) (b0_3 : (List C))  : Option (X_law8_CfgHeads_7_0_0_0 ⊕ X_law8_CfgHeads_7_0_0_1) :=
  some (Sum.inl (b0, b0_1, b0_2, b0_3))
noncomputable abbrev rx_law8_CfgHeads_7_0_0 (b0 : (List Int)) (b0_1 : (List Int)) (b0_2 : Int) (b0_3 : (List C)) (i : Nat) (s : Unit) : X_law8_CfgHeads_7_0_0 := ((i : Int), b0, b0_1, b0_2, b0_3)
noncomputable def rv_law8_CfgHeads_7_0_0 (b0 : (List Int)) (b0_1 : (List Int)) (b0_2 : Int) (b0_3 : (List C)) (s : Unit) : Option (X_law8_CfgHeads_7_0_0_0 ⊕ X_law8_CfgHeads_7_0_0_1) := rangeO (fun i s d => bd_law8_CfgHeads_7_0_0 b0 b0_1 b0_2 b0_3 i  d) (fun s => fn_law8_CfgHeads_7_0_0 b0 b0_1 b0_2 b0_3 ) 0 b0_3 s
theorem rg_law8_CfgHeads_7_0_0 (b0 : (List Int)) (b0_1 : (List Int)) (b0_2 : Int) (b0_3 : (List C)) (s : Unit) (hl : b0_3.length < 9223372036854775807) : L_law8_CfgHeads_7_0_0 (0, b0, b0_1, b0_2, b0_3) = rv_law8_CfgHeads_7_0_0 b0 b0_1 b0_2 b0_3 s := by
  unfold L_law8_CfgHeads_7_0_0 rv_law8_CfgHeads_7_0_0
  refine iterO_range0 b0_3 (rx_law8_CfgHeads_7_0_0 b0 b0_1 b0_2 b0_3) _ _ ?_ ?_ s (by unfold FUEL; omega)
  · intro i s d hi hd
    have e1 : decide ((i : Int) < (b0_3.length : Int)) = true := decide_eq_true (by omega)
    have e2 : decide (0 ≤ (i : Int)) = true := decide_eq_true (by omega)
    have e3 : Int.toNat (i : Int) = i := Int.toNat_natCast i
    have e4 := wrap_next hi (Nat.le_of_lt hl)
    show st_law8_CfgHeads_7_0_0 ((i : Int)) (b0) (b0_1) (b0_2) (b0_3) = upd _ (bd_law8_CfgHeads_7_0_0 b0 b0_1 b0_2 b0_3 i  d)
    unfold st_law8_CfgHeads_7_0_0 bd_law8_CfgHeads_7_0_0
    simp only [e1, e2, e3, e4, hd, cond_true, cond_false, optC_some, upd_cond, upd_optC, upd_elim, upd_inl, upd_inr, upd_none]
  · intro s
    have e1 : decide ((b0_3.length : Int) < (b0_3.length : Int)) = false := decide_eq_false (by omega)
    show st_law8_CfgHeads_7_0_0 ((b0_3.length : Int)) (b0) (b0_1) (b0_2) (b0_3) = _
    unfold st_law8_CfgHeads_7_0_0 fn_law8_CfgHeads_7_0_0
    rw [e1]
    rfl
end Go.Proofs.YtmjbedjnojcmfaaGreatDoor.Ex

namespace Go.Proofs.YtmjbedjnojcmfaaGreatDoor.Ex
open Go.Proofs
set_option maxRecDepth 100000
set_option maxHeartbeats 2000000
set_option linter.unusedVariables false
set_option linter.unusedSimpArgs false
theorem rangeO_total {σ α Y : Type} {f : Nat → σ → α → Option (σ ⊕ Y)} {fin : σ → Option Y} (hf : ∀ i s d, ∃ z, f i s d = some z) (hn : ∀ s, ∃ y, fin s = some y) : ∀ (l : List α) (i : Nat) (s : σ), ∃ y, rangeO f fin i l s = some y
  | [], i, s => hn s
  | d :: r, i, s => by
    obtain ⟨z, hz⟩ := hf i s d
    rw [rangeO, hz]
    cases z with
    | inl s' => exact rangeO_total hf hn r (i + 1) s'
    | inr y => exact ⟨y, rfl⟩
theorem n_wide (u : U) (hs : sizeU u) : ∃ b, g_law8_wide u = some b := by
  unfold g_law8_wide
  obtain ⟨y, hy⟩ := rangeO_total (f := fun i s d => bd_law8_wide_25_0_0 u.1 u.2.1 u.2.2.1 u.2.2.2 i s d) (fin := fun s => fn_law8_wide_25_0_0 u.1 u.2.1 u.2.2.1 u.2.2.2 s)
    (fun i s d => by unfold bd_law8_wide_25_0_0; cases decide (s ≤ 400) <;> exact ⟨_, rfl⟩) (fun s => ⟨_, rfl⟩) u.2.2.2 0 (IntKind.i64.wrap ((u.1.length : Int) + (u.2.1.length : Int)))
  have e : L_law8_wide_25_0_0 (IntKind.i64.wrap ((u.1.length : Int) + (u.2.1.length : Int)), 0, u) = some y := (rg_law8_wide_25_0_0 u.1 u.2.1 u.2.2.1 u.2.2.2 _ hs.2.2.1).trans hy
  rw [e]
  exact ⟨_, rfl⟩
theorem ints_self (l : List Int) (hl : l.length < 9223372036854775807) : g_ref8_Ints l l = some true := by
  have go : ∀ (r : List Int) (i : Nat), l.drop i = r → rangeO (fun i s d => bd_ref8_Ints_30_0_0 l l i d) (fun s => fn_ref8_Ints_30_0_0 l l) i r () = some (.inl ()) := by
    intro r
    induction r with
    | nil => intro i _; rfl
    | cons d r ih =>
      intro i hd
      have hc : l[i]? = some d := by
        have := congrArg (fun q => q[0]?) hd
        simpa using this
      rw [rangeO]
      unfold bd_ref8_Ints_30_0_0
      rw [hc]
      simp only [optC_some, bne_self_eq_false, cond_false]
      exact ih (i + 1) (by rw [← List.drop_drop, hd]; rfl)
  unfold g_ref8_Ints
  have e : L_ref8_Ints_30_0_0 (l, l, 0) = some (.inl ()) := (rg_ref8_Ints_30_0_0 l l () hl).trans (go l 0 rfl)
  rw [e]
  simp only [bne_self_eq_false, cond_false]
  rfl
theorem n_isIn (a b c : Int) : g_cfg_isIn a b c = some (decide (b ≤ a) && decide (a ≤ c)) := by
  unfold g_cfg_isIn
  by_cases h : a ≥ b
  · rw [decide_eq_true h]; rfl
  · rw [decide_eq_false h]; rfl
def inI (x : Int) (i : Nat) : Bool := decide (0 ≤ x) && decide (x ≤ (i : Int))
def oneH (i : Nat) (d : A) : List Int := bif d.1 == 14 then [] else bif d.1 == 13 then [] else (bif inI d.2.2.2.2.2.2.2.1 i then [d.2.2.2.2.2.2.2.1] else []) ++ (bif d.1 == 11 then (bif inI d.2.2.2.2.2.2.2.2 i then [d.2.2.2.2.2.2.2.2] else []) else [])
def rawH : Nat → List A → List Int
  | _, [] => []
  | i, d :: r => oneH i d ++ rawH (i + 1) r
theorem oneH_len (i : Nat) (d : A) : (oneH i d).length ≤ 2 := by
  unfold oneH
  cases d.1 == 14 <;> cases d.1 == 13 <;> cases d.1 == 11 <;> cases inI d.2.2.2.2.2.2.2.1 i <;> cases inI d.2.2.2.2.2.2.2.2 i <;> simp
theorem rawH_len : ∀ (l : List A) (i : Nat), (rawH i l).length ≤ 2 * l.length
  | [], _ => Nat.le_refl 0
  | d :: r, i => by
    have := oneH_len i d
    have := rawH_len r (i + 1)
    rw [rawH, List.length_append, List.length_cons]; omega
theorem rawH_go (L : List A) : ∀ (r : List A) (i : Nat) (b : List Int), b.length + 2 * r.length ≤ 10000 → rangeO (fun i s d => bd_cfg_Heads_31_0_0 L i s d) (fun s => fn_cfg_Heads_31_0_0 L s) i r b = some (b ++ rawH i r)
  | [], i, b, _ => by rw [rangeO, rawH, List.append_nil]; rfl
  | d :: r, i, b, h => by
    rw [List.length_cons] at h
    have hb : bd_cfg_Heads_31_0_0 L i b d = some (.inl (b ++ oneH i d)) := by
      have l1 : ∀ (b : List Int) (x : Int), b.length ≤ 10001 → decide ((b.length + [x].length + 1) * 8 ≤ lim) = true := fun b x hb => decide_eq_true (by rw [List.length_singleton]; unfold lim; omega)
      unfold bd_cfg_Heads_31_0_0 oneH inI
      simp only [G_cfg_isIn, n_isIn, optC_some, l1 b _ (by omega), l1 (b ++ [d.2.2.2.2.2.2.2.1]) _ (by rw [List.length_append, List.length_singleton]; omega), cond_true]
      cases d.1 == 14
      · cases d.1 == 13
        · cases decide (0 ≤ d.2.2.2.2.2.2.2.1) && decide (d.2.2.2.2.2.2.2.1 ≤ (i : Int)) <;> cases d.1 == 11 <;> cases decide (0 ≤ d.2.2.2.2.2.2.2.2) && decide (d.2.2.2.2.2.2.2.2 ≤ (i : Int)) <;> simp
        · simp
      · simp
    have hl := oneH_len i d
    rw [rangeO_inl hb, rawH_go L r (i + 1) (b ++ oneH i d) (by rw [List.length_append]; omega), rawH, List.append_assoc]
theorem rawH_mem (x : Int) : ∀ (l : List A) (i : Nat), x ∈ rawH i l ↔ ∃ k d, l[k]? = some d ∧ x ∈ oneH (i + k) d
  | [], i => by simp [rawH]
  | d :: r, i => by
    rw [rawH, List.mem_append, rawH_mem x r (i + 1)]
    constructor
    · rintro (h | ⟨k, e, hk, h⟩)
      · exact ⟨0, d, rfl, h⟩
      · exact ⟨k + 1, e, hk, by rwa [show i + 1 + k = i + (k + 1) by omega] at h⟩
    · rintro ⟨k, e, hk, h⟩
      cases k with
      | zero => cases hk; exact .inl h
      | succ k => exact .inr ⟨k, e, hk, by rwa [show i + (k + 1) = i + 1 + k by omega] at h⟩
theorem oneH_mem (x : Int) (i : Nat) (d : A) : x ∈ oneH i d ↔ (0 ≤ x ∧ x ≤ (i : Int)) ∧ d.1 ≠ 14 ∧ d.1 ≠ 13 ∧ (d.2.2.2.2.2.2.2.1 = x ∨ (d.1 = 11 ∧ d.2.2.2.2.2.2.2.2 = x)) := by
  unfold oneH
  by_cases h14 : d.1 = 14
  · simp [h14]
  by_cases h13 : d.1 = 13
  · simp [h13]
  have e14 : (d.1 == 14) = false := by simp [h14]
  have e13 : (d.1 == 13) = false := by simp [h13]
  rw [e14, e13, cond_false, cond_false, List.mem_append]
  have q : ∀ y : Int, x ∈ (bif inI y i then [y] else []) ↔ (0 ≤ x ∧ x ≤ (i : Int)) ∧ y = x := fun y => by
    cases hq : inI y i
    · simp only [cond_false, List.not_mem_nil, false_iff]
      rintro ⟨h, rfl⟩
      simp [inI, h] at hq
    · simp only [inI, Bool.and_eq_true, decide_eq_true_eq] at hq
      simp only [cond_true, List.mem_singleton]
      exact ⟨fun h => by subst h; exact ⟨hq, rfl⟩, fun h => h.2.symm⟩
  by_cases h11 : d.1 = 11
  · have e11 : (d.1 == 11) = true := by simp [h11]
    rw [e11, cond_true, q, q]
    exact ⟨fun h => h.elim (fun h => ⟨h.1, h14, h13, .inl h.2⟩) (fun h => ⟨h.1, h14, h13, .inr ⟨h11, h.2⟩⟩), fun h => h.2.2.2.elim (fun k => .inl ⟨h.1, k⟩) (fun k => .inr ⟨h.1, k.2⟩)⟩
  · have e11 : (d.1 == 11) = false := by simp [h11]
    rw [e11, cond_false, q]
    exact ⟨fun h => h.elim (fun h => ⟨h.1, h14, h13, .inl h.2⟩) (fun h => absurd h (by simp)), fun h => h.2.2.2.elim (fun k => .inl ⟨h.1, k⟩) (fun k => absurd k.1 h11)⟩
theorem leads_iff (h : Int) (d : A) : leadsB h d = true ↔ d.1 ≠ 14 ∧ d.1 ≠ 13 ∧ (d.2.2.2.2.2.2.2.1 = h ∨ (d.1 = 11 ∧ d.2.2.2.2.2.2.2.2 = h)) := by
  unfold leadsB
  simp only [Bool.and_eq_true, Bool.or_eq_true, bne_iff_ne, ne_eq, beq_iff_eq]
theorem heads_rise (acts : List A) (i k : Nat) : (headsF acts i k).Pairwise (· < ·) := by
  unfold headsF
  rw [List.pairwise_map]
  refine List.Pairwise.imp (fun {a b} h => Int.ofNat_lt.2 h) (List.Pairwise.filter _ ?_)
  exact List.pairwise_lt_range'
theorem heads_mem (acts : List A) (x : Int) : x ∈ headsF acts 0 acts.length ↔ x ∈ rawH 0 acts := by
  rw [rawH_mem]
  unfold headsF
  simp only [List.mem_map, List.mem_filter, List.mem_range'_1, List.any_eq_true, Nat.zero_add]
  constructor
  · rintro ⟨h, ⟨⟨_, hh⟩, d, hd, hl⟩, rfl⟩
    obtain ⟨j, hj⟩ := List.getElem?_of_mem hd
    rw [List.getElem?_drop] at hj
    refine ⟨h + j, d, hj, (oneH_mem _ _ _).2 ⟨⟨by show (0 : Int) ≤ (h : Int); omega, by show (h : Int) ≤ ((h + j : Nat) : Int); omega⟩, (leads_iff _ _).1 hl⟩⟩
  · rintro ⟨k, d, hk, hx⟩
    obtain ⟨⟨h0, h1⟩, hl⟩ := (oneH_mem _ _ _).1 hx
    have hkl := (List.getElem?_eq_some_iff.1 hk).1
    obtain ⟨h, rfl⟩ : ∃ h : Nat, x = h := ⟨x.toNat, by omega⟩
    refine ⟨h, ⟨⟨Nat.zero_le _, by omega⟩, d, ?_, (leads_iff _ _).2 hl⟩, rfl⟩
    refine List.mem_of_getElem? (i := k - h) ?_
    rw [List.getElem?_drop, show h + (k - h) = k by omega]
    exact hk
theorem n_cfgHeads (c : C) (hn : c.2.length ≤ 60) : g_cfg_Heads c = some (headsF c.2 0 c.2.length) := by
  unfold g_cfg_Heads
  have e : L_cfg_Heads_31_0_0 (c.2, (c.2.length : Int), 0, []) = some (rawH 0 c.2) := (rg_cfg_Heads_31_0_0 c.2 [] (by omega)).trans ((rawH_go c.2 c.2 0 [] (by simp; omega)).trans (by rw [List.nil_append]))
  have hl := rawH_len c.2 0
  rw [e]
  simp only [optC_some]
  rw [decide_eq_true (show (rawH 0 c.2).length < 4611686018427387904 by omega), decide_eq_true (show (srtI (rawH 0 c.2)).length < 4611686018427387904 by rw [srtI_len]; omega)]
  simp only [cond_true]
  rw [cut_take, List.take_length]
  obtain ⟨h1, h2⟩ := comp_srt (rawH 0 c.2)
  rw [rise_uniq _ _ h1 (heads_rise c.2 0 c.2.length) fun x => by rw [h2, heads_mem]]
theorem heads_len (acts : List A) (n : Nat) : (headsF acts 0 n).length ≤ n := by
  unfold headsF
  rw [List.length_map]
  refine Nat.le_trans (List.length_filter_le _ _) (by simp)
theorem cfgHeads (u : U) (hs : sizeU u) : g_law8_CfgHeads u = some true := by
  unfold g_law8_CfgHeads
  obtain ⟨b, hb⟩ := n_wide u hs
  simp only [G_law8_wide, hb, optC_some]
  by_cases hbt : b = true
  · subst hbt; rfl
  obtain rfl : b = false := by simpa using hbt
  obtain ⟨b, hb, hu⟩ := n_ref8_Is u hs
  simp only [G_ref8_Is, hb, optC_some, cond_false]
  cases b
  · rfl
  have hu := hu rfl
  have go : ∀ (r : List C) (i : Nat), (∀ c ∈ r, c ∈ u.2.2.2) → rangeO (fun i s d => bd_law8_CfgHeads_7_0_0 u.1 u.2.1 u.2.2.1 u.2.2.2 i d) (fun s => fn_law8_CfgHeads_7_0_0 u.1 u.2.1 u.2.2.1 u.2.2.2) i r () = some (.inl (u.1, u.2.1, u.2.2.1, u.2.2.2)) := by
    intro r
    induction r with
    | nil => intro i _; rfl
    | cons c r ih =>
      intro i h
      have hc := (hu.ts c (h c (by simp))).n
      have hl := heads_len c.2 c.2.length
      rw [rangeO]
      unfold bd_law8_CfgHeads_7_0_0
      simp only [G_cfg_Heads, G_ref8_Heads, G_ref8_Ints, n_cfgHeads c hc.2, n_Heads c hc.2, ints_self _ (show (headsF c.2 0 c.2.length).length < 9223372036854775807 by omega), optC_some, Bool.not_true, cond_false]
      exact ih (i + 1) fun d hd => h d (by simp [hd])
  have e : L_law8_CfgHeads_7_0_0 (0, u) = some (.inl u) := (rg_law8_CfgHeads_7_0_0 u.1 u.2.1 u.2.2.1 u.2.2.2 () hs.2.2.1).trans (go u.2.2.2 0 fun _ h => h)
  have hst := steps_len u hu
  simp only [Bool.not_true, cond_false, e, optC_some, Sum.elim_inl, G_cfg_Steps, n_cfg_Steps u hu, G_ref8_Steps, n_ref8_Steps u hu, G_ref8_Ints, ints_self _ (show (stepsV u).length < 9223372036854775807 by omega), cond_true]
  rfl
end Go.Proofs.YtmjbedjnojcmfaaGreatDoor.Ex

namespace Go.Proofs.YtmjbedjnojcmfaaGreatDoor.Ex
open Go.Proofs Go.Proofs.YtmjbedjnojcmfaaGreatDoor
set_option maxRecDepth 100000
set_option maxHeartbeats 2000000
set_option linter.unusedVariables false
set_option linter.unusedSimpArgs false
abbrev ty_128_0 : Type := ((List Int) × Int × Int × Bool × Int × (List Int) × (List Int) × Int × (List C) × Int × Int × Int × Int × Int × Int × Int × Int × Int)
def ash_law8_CfgNumbers : List Sh := [.dat tU]
def kp_law8_CfgNumbers_6_0 : Nat → List Nat := fun c => bif c.beq 0 then [1, 3, 4] else [1, 2, 3]
def kp_law8_CfgNumbers_6_6 : Nat → List Nat := fun c => bif c.beq 0 then [1, 3, 5, 6, 7, 8, 9] else [1, 3, 5, 6, 8]
def kp_law8_CfgNumbers_6_4 : Nat → List Nat := fun c => bif c.beq 0 then [1, 3, 5, 6] else [1, 2, 3, 5]
def kp_law8_CfgNumbers_6_2 : Nat → List Nat := fun c => bif c.beq 0 then [1, 3, 5] else [2]
noncomputable def sp_law8_CfgNumbers : List Con := [⟨25, con_law8_wide, snd_law8_wide⟩, ⟨27, con_ref8_Is, snd_ref8_Is⟩, ⟨29, con_cfg_Steps, snd_cfg_Steps⟩, ⟨24, con_law8_known, snd_law8_known⟩]
def s_law8_CfgNumbers_6_0_0 : StS := ⟨[(1, .ptr 0 0), (3, .sl (.int .i64)), (4, .int .i64)], [(0, .box [.sl (.int .i64), .sl (.int .i64), .int .i64, .sl tC])], 1⟩
def x_law8_CfgNumbers_6_0_0_0 : StS := ⟨[(1, .ptr 0 0), (2, .undef), (3, .sl (.int .i64))], [(0, .box [.sl (.int .i64), .sl (.int .i64), .int .i64, .sl tC])], 1⟩
def x_law8_CfgNumbers_6_0_0_1 : StS := ⟨[(1, .ptr 0 0), (2, .bool), (3, .sl (.int .i64))], [(0, .box [.sl (.int .i64), .sl (.int .i64), .int .i64, .sl tC])], 1⟩
abbrev X_law8_CfgNumbers_6_0_0 := ((List Int) × Int × (List Int) × (List Int) × Int × (List C))
def fl_law8_CfgNumbers_6_0_0 (d : StD s_law8_CfgNumbers_6_0_0) : X_law8_CfgNumbers_6_0_0 := (d.1.2.1, d.1.2.2.1, d.2.1.1, d.2.1.2.1, d.2.1.2.2.1, d.2.1.2.2.2.1)
def un_law8_CfgNumbers_6_0_0 (x : X_law8_CfgNumbers_6_0_0) : StD s_law8_CfgNumbers_6_0_0 := (((), x.1, x.2.1, ()), ((x.2.2.1, x.2.2.2.1, x.2.2.2.2.1, x.2.2.2.2.2, ()), ()))
abbrev X_law8_CfgNumbers_6_0_0_0 := ((List Int) × (List Int) × (List Int) × Int × (List C))
def fl_law8_CfgNumbers_6_0_0_0 (d : StD x_law8_CfgNumbers_6_0_0_0) : X_law8_CfgNumbers_6_0_0_0 := (d.1.2.2.1, d.2.1.1, d.2.1.2.1, d.2.1.2.2.1, d.2.1.2.2.2.1)
def un_law8_CfgNumbers_6_0_0_0 (x : X_law8_CfgNumbers_6_0_0_0) : StD x_law8_CfgNumbers_6_0_0_0 := (((), (), x.1, ()), ((x.2.1, x.2.2.1, x.2.2.2.1, x.2.2.2.2, ()), ()))
abbrev X_law8_CfgNumbers_6_0_0_1 := (Bool × (List Int) × (List Int) × (List Int) × Int × (List C))
def fl_law8_CfgNumbers_6_0_0_1 (d : StD x_law8_CfgNumbers_6_0_0_1) : X_law8_CfgNumbers_6_0_0_1 := (d.1.2.1, d.1.2.2.1, d.2.1.1, d.2.1.2.1, d.2.1.2.2.1, d.2.1.2.2.2.1)
def un_law8_CfgNumbers_6_0_0_1 (x : X_law8_CfgNumbers_6_0_0_1) : StD x_law8_CfgNumbers_6_0_0_1 := (((), x.1, x.2.1, ()), ((x.2.2.1, x.2.2.2.1, x.2.2.2.2.1, x.2.2.2.2.2, ()), ()))
noncomputable def st_law8_CfgNumbers_6_0_0 (s3 : (List Int)) (s4 : Int) (b0 : (List Int)) (b0_1 : (List Int)) (b0_2 : Int) (b0_3 : (List C)) : Option (((List Int) × Int × (List Int) × (List Int) × Int × (List C)) ⊕ (((List Int) × (List Int) × (List Int) × Int × (List C)) ⊕ (Bool × (List Int) × (List Int) × (List Int) × Int × (List C)))) :=
  bif decide (s4 < (↑s3.length : Int)) then
 bif decide (0 ≤ Go.IntKind.i64.wrap (s4 - 1)) then
 optC s3[(Go.IntKind.i64.wrap (s4 - 1)).toNat]? none fun d11 ↦
 bif decide (0 ≤ s4) then
 optC s3[s4.toNat]? none fun d12 ↦
 bif decide (d11 ≥ d12) then some (Sum.inr (Sum.inr (false, s3, b0, b0_1, b0_2, b0_3)))
 else some (Sum.inl (s3, Go.IntKind.i64.wrap (s4 + 1), b0, b0_1, b0_2, b0_3))
 else none
 else none
 else some (Sum.inr (Sum.inl (s3, b0, b0_1, b0_2, b0_3)))
noncomputable def sx_law8_CfgNumbers_6_0_0 (x : X_law8_CfgNumbers_6_0_0) : Option (X_law8_CfgNumbers_6_0_0 ⊕ (X_law8_CfgNumbers_6_0_0_0 ⊕ X_law8_CfgNumbers_6_0_0_1)) := st_law8_CfgNumbers_6_0_0 x.1 x.2.1 x.2.2.1 x.2.2.2.1 x.2.2.2.2.1 x.2.2.2.2.2
theorem rn_law8_CfgNumbers_6_0_0 (x : X_law8_CfgNumbers_6_0_0) : rdX (cxU sp_law8_CfgNumbers [] 40 1048576) keeps 8 ⟨6, 85, keeps 6, 0⟩ 0 (bodyX 6 0) 0 kp_law8_CfgNumbers_6_0 (sT s_law8_CfgNumbers_6_0_0 (un_law8_CfgNumbers_6_0_0 x)) (sH s_law8_CfgNumbers_6_0_0 (un_law8_CfgNumbers_6_0_0 x)) (rdO (fun T h => (rdS s_law8_CfgNumbers_6_0_0 T h).map fl_law8_CfgNumbers_6_0_0) (getOr (getE 2 x_law8_CfgNumbers_6_0_0_0 fl_law8_CfgNumbers_6_0_0_0) (getE 1 x_law8_CfgNumbers_6_0_0_1 fl_law8_CfgNumbers_6_0_0_1))) = sx_law8_CfgNumbers_6_0_0 x := by kernel_rfl
noncomputable def L_law8_CfgNumbers_6_0_0 (x : X_law8_CfgNumbers_6_0_0) : Option (X_law8_CfgNumbers_6_0_0_0 ⊕ X_law8_CfgNumbers_6_0_0_1) := iterO (fun x => st_law8_CfgNumbers_6_0_0 x.1 x.2.1 x.2.2.1 x.2.2.2.1 x.2.2.2.2.1 x.2.2.2.2.2) FUEL x
noncomputable def q_law8_CfgNumbers_6_0 : Nat → Tm → Prog (Nat × Tm) := (varP 0 (fun T h => (rdS s_law8_CfgNumbers_6_0_0 T h).map fl_law8_CfgNumbers_6_0_0) L_law8_CfgNumbers_6_0_0 (fun y => .alt y (altE 2 x_law8_CfgNumbers_6_0_0_0 un_law8_CfgNumbers_6_0_0_0) (altE 1 x_law8_CfgNumbers_6_0_0_1 un_law8_CfgNumbers_6_0_0_1)) (fun _ _ => .fail))
noncomputable def lc_law8_CfgNumbers_6_0 : Lpc := ⟨6, 0, 85, (fun base T => .norm base (kp_law8_CfgNumbers_6_0 0) T (q_law8_CfgNumbers_6_0 base)), by kernel_rfl, by kernel_rfl, (loopU sp_law8_CfgNumbers [] 40 1048576 8 (keep := kp_law8_CfgNumbers_6_0) (q := q_law8_CfgNumbers_6_0) (by kernel_rfl) (varX_ok (s := s_law8_CfgNumbers_6_0_0) (un := un_law8_CfgNumbers_6_0_0) (by rfl) (fun _ => rfl) (getOr_ok (getE_ok (s := x_law8_CfgNumbers_6_0_0_0) (un := un_law8_CfgNumbers_6_0_0_0) (by rfl) (fun _ => rfl)) (getE_ok (s := x_law8_CfgNumbers_6_0_0_1) (un := un_law8_CfgNumbers_6_0_0_1) (by rfl) (fun _ => rfl))) (step := sx_law8_CfgNumbers_6_0_0) rn_law8_CfgNumbers_6_0_0 (fun _ _ e => ⟨_, e⟩) (altOr_ok (altE_ok 2 x_law8_CfgNumbers_6_0_0_0 un_law8_CfgNumbers_6_0_0_0) (altE_ok 1 x_law8_CfgNumbers_6_0_0_1 un_law8_CfgNumbers_6_0_0_1)) (VarOk.fail _ _)))⟩
noncomputable abbrev cx_law8_CfgNumbers_6_6 := cxU sp_law8_CfgNumbers [lc_law8_CfgNumbers_6_0] 40 1048576
def s_law8_CfgNumbers_6_6_0 : StS := ⟨[(1, .ptr 0 0), (3, .sl (.int .i64)), (5, .int .i64), (6, .int .i64), (7, .ptr 1 0), (8, .bool), (9, .int .i64)], [(0, .box [.sl (.int .i64), .sl (.int .i64), .int .i64, .sl tC]), (1, .box [.int .i64, .int .i64, .int .i64, .int .i64, .int .i64, .int .i64, .int .i64, .int .i64, .int .i64])], 2⟩
def x_law8_CfgNumbers_6_6_0_0 : StS := ⟨[(1, .ptr 0 0), (3, .sl (.int .i64)), (5, .int .i64), (6, .int .i64), (8, .bool)], [(0, .box [.sl (.int .i64), .sl (.int .i64), .int .i64, .sl tC])], 1⟩
abbrev X_law8_CfgNumbers_6_6_0 := ty_128_0
def fl_law8_CfgNumbers_6_6_0 (d : StD s_law8_CfgNumbers_6_6_0) : X_law8_CfgNumbers_6_6_0 := (d.1.2.1, d.1.2.2.1, d.1.2.2.2.1, d.1.2.2.2.2.2.1, d.1.2.2.2.2.2.2.1, d.2.1.1, d.2.1.2.1, d.2.1.2.2.1, d.2.1.2.2.2.1, d.2.2.1.1, d.2.2.1.2.1, d.2.2.1.2.2.1, d.2.2.1.2.2.2.1, d.2.2.1.2.2.2.2.1, d.2.2.1.2.2.2.2.2.1, d.2.2.1.2.2.2.2.2.2.1, d.2.2.1.2.2.2.2.2.2.2.1, d.2.2.1.2.2.2.2.2.2.2.2.1)
def un_law8_CfgNumbers_6_6_0 (x : X_law8_CfgNumbers_6_6_0) : StD s_law8_CfgNumbers_6_6_0 := (((), x.1, x.2.1, x.2.2.1, (), x.2.2.2.1, x.2.2.2.2.1, ()), ((x.2.2.2.2.2.1, x.2.2.2.2.2.2.1, x.2.2.2.2.2.2.2.1, x.2.2.2.2.2.2.2.2.1, ()), (x.2.2.2.2.2.2.2.2.2.1, x.2.2.2.2.2.2.2.2.2.2.1, x.2.2.2.2.2.2.2.2.2.2.2.1, x.2.2.2.2.2.2.2.2.2.2.2.2.1, x.2.2.2.2.2.2.2.2.2.2.2.2.2.1, x.2.2.2.2.2.2.2.2.2.2.2.2.2.2.1, x.2.2.2.2.2.2.2.2.2.2.2.2.2.2.2.1, x.2.2.2.2.2.2.2.2.2.2.2.2.2.2.2.2.1, x.2.2.2.2.2.2.2.2.2.2.2.2.2.2.2.2.2, ()), ()))
abbrev X_law8_CfgNumbers_6_6_0_0 := ((List Int) × Int × Int × Bool × (List Int) × (List Int) × Int × (List C))
def fl_law8_CfgNumbers_6_6_0_0 (d : StD x_law8_CfgNumbers_6_6_0_0) : X_law8_CfgNumbers_6_6_0_0 := (d.1.2.1, d.1.2.2.1, d.1.2.2.2.1, d.1.2.2.2.2.1, d.2.1.1, d.2.1.2.1, d.2.1.2.2.1, d.2.1.2.2.2.1)
def un_law8_CfgNumbers_6_6_0_0 (x : X_law8_CfgNumbers_6_6_0_0) : StD x_law8_CfgNumbers_6_6_0_0 := (((), x.1, x.2.1, x.2.2.1, x.2.2.2.1, ()), ((x.2.2.2.2.1, x.2.2.2.2.2.1, x.2.2.2.2.2.2.1, x.2.2.2.2.2.2.2, ()), ()))
noncomputable def st_law8_CfgNumbers_6_6_0 (s3 : (List Int)) (s5 : Int) (s6 : Int) (s8 : Bool) (s9 : Int) (b0 : (List Int)) (b0_1 : (List Int)) (b0_2 : Int) (b0_3 : (List C)) (b1 : Int) (b1_1 : Int) (b1_2 : Int) (b1_3 : Int) (b1_4 : Int) (b1_5 : Int) (b1_6 : Int) (b1_7 : Int) (b1_8 : Int) : Option (ty_128_0 ⊕ ((List Int) × Int × Int × Bool × (List Int) × (List Int) × Int × (List C))) :=
  bif decide (s9 < (↑s3.length : Int)) then
 bif !s8 then
 bif decide (0 ≤ s9) then
 optC s3[s9.toNat]? none fun d23 ↦
 some (Sum.inl (s3, s5, s6, d23 == b1_5, Go.IntKind.i64.wrap (s9 + 1), b0, b0_1, b0_2, b0_3, b1, b1_1, b1_2, b1_3, b1_4, b1_5, b1_6, b1_7, b1_8))
 else none
 else some (Sum.inr (s3, s5, s6, s8, b0, b0_1, b0_2, b0_3))
 else some (Sum.inr (s3, s5, s6, s8, b0, b0_1, b0_2, b0_3))
noncomputable def sx_law8_CfgNumbers_6_6_0 (x : X_law8_CfgNumbers_6_6_0) : Option (X_law8_CfgNumbers_6_6_0 ⊕ X_law8_CfgNumbers_6_6_0_0) := st_law8_CfgNumbers_6_6_0 x.1 x.2.1 x.2.2.1 x.2.2.2.1 x.2.2.2.2.1 x.2.2.2.2.2.1 x.2.2.2.2.2.2.1 x.2.2.2.2.2.2.2.1 x.2.2.2.2.2.2.2.2.1 x.2.2.2.2.2.2.2.2.2.1 x.2.2.2.2.2.2.2.2.2.2.1 x.2.2.2.2.2.2.2.2.2.2.2.1 x.2.2.2.2.2.2.2.2.2.2.2.2.1 x.2.2.2.2.2.2.2.2.2.2.2.2.2.1 x.2.2.2.2.2.2.2.2.2.2.2.2.2.2.1 x.2.2.2.2.2.2.2.2.2.2.2.2.2.2.2.1 x.2.2.2.2.2.2.2.2.2.2.2.2.2.2.2.2.1 x.2.2.2.2.2.2.2.2.2.2.2.2.2.2.2.2.2
theorem rn_law8_CfgNumbers_6_6_0 (x : X_law8_CfgNumbers_6_6_0) : rdX cx_law8_CfgNumbers_6_6 keeps 8 ⟨6, 85, keeps 6, 0⟩ 6 (bodyX 6 6) 0 kp_law8_CfgNumbers_6_6 (sT s_law8_CfgNumbers_6_6_0 (un_law8_CfgNumbers_6_6_0 x)) (sH s_law8_CfgNumbers_6_6_0 (un_law8_CfgNumbers_6_6_0 x)) (rdO (fun T h => (rdS s_law8_CfgNumbers_6_6_0 T h).map fl_law8_CfgNumbers_6_6_0) (getE 8 x_law8_CfgNumbers_6_6_0_0 fl_law8_CfgNumbers_6_6_0_0)) = sx_law8_CfgNumbers_6_6_0 x := by kernel_rfl
noncomputable def L_law8_CfgNumbers_6_6_0 (x : X_law8_CfgNumbers_6_6_0) : Option X_law8_CfgNumbers_6_6_0_0 := iterO (fun x => st_law8_CfgNumbers_6_6_0 x.1 x.2.1 x.2.2.1 x.2.2.2.1 x.2.2.2.2.1 x.2.2.2.2.2.1 x.2.2.2.2.2.2.1 x.2.2.2.2.2.2.2.1 x.2.2.2.2.2.2.2.2.1 x.2.2.2.2.2.2.2.2.2.1 x.2.2.2.2.2.2.2.2.2.2.1 x.2.2.2.2.2.2.2.2.2.2.2.1 x.2.2.2.2.2.2.2.2.2.2.2.2.1 x.2.2.2.2.2.2.2.2.2.2.2.2.2.1 x.2.2.2.2.2.2.2.2.2.2.2.2.2.2.1 x.2.2.2.2.2.2.2.2.2.2.2.2.2.2.2.1 x.2.2.2.2.2.2.2.2.2.2.2.2.2.2.2.2.1 x.2.2.2.2.2.2.2.2.2.2.2.2.2.2.2.2.2) FUEL x
noncomputable def q_law8_CfgNumbers_6_6 : Nat → Tm → Prog (Nat × Tm) := (varP 0 (fun T h => (rdS s_law8_CfgNumbers_6_6_0 T h).map fl_law8_CfgNumbers_6_6_0) L_law8_CfgNumbers_6_6_0 (altE 8 x_law8_CfgNumbers_6_6_0_0 un_law8_CfgNumbers_6_6_0_0) (fun _ _ => .fail))
noncomputable def lc_law8_CfgNumbers_6_6 : Lpc := ⟨6, 6, 85, (fun base T => .norm base (kp_law8_CfgNumbers_6_6 0) T (q_law8_CfgNumbers_6_6 base)), by kernel_rfl, by kernel_rfl, (loopU sp_law8_CfgNumbers [lc_law8_CfgNumbers_6_0] 40 1048576 8 (keep := kp_law8_CfgNumbers_6_6) (q := q_law8_CfgNumbers_6_6) (by kernel_rfl) (varX_ok (s := s_law8_CfgNumbers_6_6_0) (un := un_law8_CfgNumbers_6_6_0) (by rfl) (fun _ => rfl) (getE_ok (s := x_law8_CfgNumbers_6_6_0_0) (un := un_law8_CfgNumbers_6_6_0_0) (by rfl) (fun _ => rfl)) (step := sx_law8_CfgNumbers_6_6_0) rn_law8_CfgNumbers_6_6_0 (fun _ _ e => ⟨_, e⟩) (altE_ok 8 x_law8_CfgNumbers_6_6_0_0 un_law8_CfgNumbers_6_6_0_0) (VarOk.fail _ _)))⟩
noncomputable abbrev cx_law8_CfgNumbers_6_4 := cxU sp_law8_CfgNumbers [lc_law8_CfgNumbers_6_0, lc_law8_CfgNumbers_6_6] 40 1048576
def s_law8_CfgNumbers_6_4_0 : StS := ⟨[(1, .ptr 0 0), (3, .sl (.int .i64)), (5, .int .i64), (6, .int .i64)], [(0, .box [.sl (.int .i64), .sl (.int .i64), .int .i64, .sl tC])], 1⟩
def x_law8_CfgNumbers_6_4_0_0 : StS := ⟨[(1, .ptr 0 0), (2, .undef), (3, .sl (.int .i64)), (5, .int .i64)], [(0, .box [.sl (.int .i64), .sl (.int .i64), .int .i64, .sl tC])], 1⟩
def x_law8_CfgNumbers_6_4_0_1 : StS := ⟨[(1, .ptr 0 0), (2, .bool), (3, .sl (.int .i64)), (5, .int .i64)], [(0, .box [.sl (.int .i64), .sl (.int .i64), .int .i64, .sl tC])], 1⟩
abbrev X_law8_CfgNumbers_6_4_0 := ((List Int) × Int × Int × (List Int) × (List Int) × Int × (List C))
def fl_law8_CfgNumbers_6_4_0 (d : StD s_law8_CfgNumbers_6_4_0) : X_law8_CfgNumbers_6_4_0 := (d.1.2.1, d.1.2.2.1, d.1.2.2.2.1, d.2.1.1, d.2.1.2.1, d.2.1.2.2.1, d.2.1.2.2.2.1)
def un_law8_CfgNumbers_6_4_0 (x : X_law8_CfgNumbers_6_4_0) : StD s_law8_CfgNumbers_6_4_0 := (((), x.1, x.2.1, x.2.2.1, ()), ((x.2.2.2.1, x.2.2.2.2.1, x.2.2.2.2.2.1, x.2.2.2.2.2.2, ()), ()))
abbrev X_law8_CfgNumbers_6_4_0_0 := ((List Int) × Int × (List Int) × (List Int) × Int × (List C))
def fl_law8_CfgNumbers_6_4_0_0 (d : StD x_law8_CfgNumbers_6_4_0_0) : X_law8_CfgNumbers_6_4_0_0 := (d.1.2.2.1, d.1.2.2.2.1, d.2.1.1, d.2.1.2.1, d.2.1.2.2.1, d.2.1.2.2.2.1)
def un_law8_CfgNumbers_6_4_0_0 (x : X_law8_CfgNumbers_6_4_0_0) : StD x_law8_CfgNumbers_6_4_0_0 := (((), (), x.1, x.2.1, ()), ((x.2.2.1, x.2.2.2.1, x.2.2.2.2.1, x.2.2.2.2.2, ()), ()))
abbrev X_law8_CfgNumbers_6_4_0_1 := (Bool × (List Int) × Int × (List Int) × (List Int) × Int × (List C))
def fl_law8_CfgNumbers_6_4_0_1 (d : StD x_law8_CfgNumbers_6_4_0_1) : X_law8_CfgNumbers_6_4_0_1 := (d.1.2.1, d.1.2.2.1, d.1.2.2.2.1, d.2.1.1, d.2.1.2.1, d.2.1.2.2.1, d.2.1.2.2.2.1)
def un_law8_CfgNumbers_6_4_0_1 (x : X_law8_CfgNumbers_6_4_0_1) : StD x_law8_CfgNumbers_6_4_0_1 := (((), x.1, x.2.1, x.2.2.1, ()), ((x.2.2.2.1, x.2.2.2.2.1, x.2.2.2.2.2.1, x.2.2.2.2.2.2, ()), ()))
noncomputable def st_law8_CfgNumbers_6_4_0 (s3 : (List Int)) (s5 : Int) (s6 : Int) (b0 : (List Int)) (b0_1 : (List Int)) (b0_2 : Int) (b0_3 : (List C)) : Option (((List Int) × Int × Int × (List Int) × (List Int) × Int × (List C)) ⊕ (((List Int) × Int × (List Int) × (List Int) × Int × (List C)) ⊕ (Bool × (List Int) × Int × (List Int) × (List Int) × Int × (List C)))) :=
  bif decide (0 ≤ s5) then
 optC b0_3[s5.toNat]? none fun d12 ↦
 bif decide (s6 < (↑(List.length d12.2) : Int)) then
 bif decide (0 ≤ s5) then
 optC b0_3[s5.toNat]? none fun d13 ↦
 bif decide (0 ≤ s6) then
 optC d13.2[s6.toNat]? none fun d14 ↦
 optC (L_law8_CfgNumbers_6_6_0 (s3, s5, s6, d14.1 != 1, 0, b0, b0_1, b0_2, b0_3, d14)) none fun d15 ↦
 bif !d15.2.2.2.1 then
 some
 (Sum.inr (Sum.inr (false, d15.1, d15.2.1, d15.2.2.2.2.1, d15.2.2.2.2.2.1, d15.2.2.2.2.2.2.1, d15.2.2.2.2.2.2.2)))
 else
 some
 (Sum.inl
 (d15.1, d15.2.1, Go.IntKind.i64.wrap (d15.2.2.1 + 1), d15.2.2.2.2.1, d15.2.2.2.2.2.1, d15.2.2.2.2.2.2.1,
 d15.2.2.2.2.2.2.2))
 else none
 else none
 else some (Sum.inr (Sum.inl (s3, s5, b0, b0_1, b0_2, b0_3)))
 else none
noncomputable def sx_law8_CfgNumbers_6_4_0 (x : X_law8_CfgNumbers_6_4_0) : Option (X_law8_CfgNumbers_6_4_0 ⊕ (X_law8_CfgNumbers_6_4_0_0 ⊕ X_law8_CfgNumbers_6_4_0_1)) := st_law8_CfgNumbers_6_4_0 x.1 x.2.1 x.2.2.1 x.2.2.2.1 x.2.2.2.2.1 x.2.2.2.2.2.1 x.2.2.2.2.2.2
theorem rn_law8_CfgNumbers_6_4_0 (x : X_law8_CfgNumbers_6_4_0) : rdX cx_law8_CfgNumbers_6_4 keeps 8 ⟨6, 85, keeps 6, 0⟩ 4 (bodyX 6 4) 0 kp_law8_CfgNumbers_6_4 (sT s_law8_CfgNumbers_6_4_0 (un_law8_CfgNumbers_6_4_0 x)) (sH s_law8_CfgNumbers_6_4_0 (un_law8_CfgNumbers_6_4_0 x)) (rdO (fun T h => (rdS s_law8_CfgNumbers_6_4_0 T h).map fl_law8_CfgNumbers_6_4_0) (getOr (getE 6 x_law8_CfgNumbers_6_4_0_0 fl_law8_CfgNumbers_6_4_0_0) (getE 1 x_law8_CfgNumbers_6_4_0_1 fl_law8_CfgNumbers_6_4_0_1))) = sx_law8_CfgNumbers_6_4_0 x := by kernel_rfl
noncomputable def L_law8_CfgNumbers_6_4_0 (x : X_law8_CfgNumbers_6_4_0) : Option (X_law8_CfgNumbers_6_4_0_0 ⊕ X_law8_CfgNumbers_6_4_0_1) := iterO (fun x => st_law8_CfgNumbers_6_4_0 x.1 x.2.1 x.2.2.1 x.2.2.2.1 x.2.2.2.2.1 x.2.2.2.2.2.1 x.2.2.2.2.2.2) FUEL x
noncomputable def q_law8_CfgNumbers_6_4 : Nat → Tm → Prog (Nat × Tm) := (varP 0 (fun T h => (rdS s_law8_CfgNumbers_6_4_0 T h).map fl_law8_CfgNumbers_6_4_0) L_law8_CfgNumbers_6_4_0 (fun y => .alt y (altE 6 x_law8_CfgNumbers_6_4_0_0 un_law8_CfgNumbers_6_4_0_0) (altE 1 x_law8_CfgNumbers_6_4_0_1 un_law8_CfgNumbers_6_4_0_1)) (fun _ _ => .fail))
noncomputable def lc_law8_CfgNumbers_6_4 : Lpc := ⟨6, 4, 85, (fun base T => .norm base (kp_law8_CfgNumbers_6_4 0) T (q_law8_CfgNumbers_6_4 base)), by kernel_rfl, by kernel_rfl, (loopU sp_law8_CfgNumbers [lc_law8_CfgNumbers_6_0, lc_law8_CfgNumbers_6_6] 40 1048576 8 (keep := kp_law8_CfgNumbers_6_4) (q := q_law8_CfgNumbers_6_4) (by kernel_rfl) (varX_ok (s := s_law8_CfgNumbers_6_4_0) (un := un_law8_CfgNumbers_6_4_0) (by rfl) (fun _ => rfl) (getOr_ok (getE_ok (s := x_law8_CfgNumbers_6_4_0_0) (un := un_law8_CfgNumbers_6_4_0_0) (by rfl) (fun _ => rfl)) (getE_ok (s := x_law8_CfgNumbers_6_4_0_1) (un := un_law8_CfgNumbers_6_4_0_1) (by rfl) (fun _ => rfl))) (step := sx_law8_CfgNumbers_6_4_0) rn_law8_CfgNumbers_6_4_0 (fun _ _ e => ⟨_, e⟩) (altOr_ok (altE_ok 6 x_law8_CfgNumbers_6_4_0_0 un_law8_CfgNumbers_6_4_0_0) (altE_ok 1 x_law8_CfgNumbers_6_4_0_1 un_law8_CfgNumbers_6_4_0_1)) (VarOk.fail _ _)))⟩
noncomputable abbrev cx_law8_CfgNumbers_6_2 := cxU sp_law8_CfgNumbers [lc_law8_CfgNumbers_6_0, lc_law8_CfgNumbers_6_6, lc_law8_CfgNumbers_6_4] 40 1048576
def s_law8_CfgNumbers_6_2_0 : StS := ⟨[(1, .ptr 0 0), (3, .sl (.int .i64)), (5, .int .i64)], [(0, .box [.sl (.int .i64), .sl (.int .i64), .int .i64, .sl tC])], 1⟩
def x_law8_CfgNumbers_6_2_0_0 : StS := ⟨[(2, .undef)], [], 0⟩
def x_law8_CfgNumbers_6_2_0_1 : StS := ⟨[(2, .bool)], [], 0⟩
abbrev X_law8_CfgNumbers_6_2_0 := ((List Int) × Int × (List Int) × (List Int) × Int × (List C))
def fl_law8_CfgNumbers_6_2_0 (d : StD s_law8_CfgNumbers_6_2_0) : X_law8_CfgNumbers_6_2_0 := (d.1.2.1, d.1.2.2.1, d.2.1.1, d.2.1.2.1, d.2.1.2.2.1, d.2.1.2.2.2.1)
def un_law8_CfgNumbers_6_2_0 (x : X_law8_CfgNumbers_6_2_0) : StD s_law8_CfgNumbers_6_2_0 := (((), x.1, x.2.1, ()), ((x.2.2.1, x.2.2.2.1, x.2.2.2.2.1, x.2.2.2.2.2, ()), ()))
abbrev X_law8_CfgNumbers_6_2_0_0 := Unit
def fl_law8_CfgNumbers_6_2_0_0 (d : StD x_law8_CfgNumbers_6_2_0_0) : X_law8_CfgNumbers_6_2_0_0 := ()
def un_law8_CfgNumbers_6_2_0_0 (x : X_law8_CfgNumbers_6_2_0_0) : StD x_law8_CfgNumbers_6_2_0_0 := (((), ()), ())
abbrev X_law8_CfgNumbers_6_2_0_1 := Bool
def fl_law8_CfgNumbers_6_2_0_1 (d : StD x_law8_CfgNumbers_6_2_0_1) : X_law8_CfgNumbers_6_2_0_1 := (d.1.1)
def un_law8_CfgNumbers_6_2_0_1 (x : X_law8_CfgNumbers_6_2_0_1) : StD x_law8_CfgNumbers_6_2_0_1 := ((x, ()), ())
noncomputable def st_law8_CfgNumbers_6_2_0 (s3 : (List Int)) (s5 : Int) (b0 : (List Int)) (b0_1 : (List Int)) (b0_2 : Int) (b0_3 : (List C)) : Option (((List Int) × Int × (List Int) × (List Int) × Int × (List C)) ⊕ (Unit ⊕ Bool)) :=
  bif decide (s5 < (↑b0_3.length : Int)) then
 optC (L_law8_CfgNumbers_6_4_0 (s3, s5, 0, b0, b0_1, b0_2, b0_3)) none fun d11 ↦
 Sum.elim (fun e12 ↦ some (Sum.inl (e12.1, Go.IntKind.i64.wrap (e12.2.1 + 1), e12.2.2.1, e12.2.2.2.1, e12.2.2.2.2.1, e12.2.2.2.2.2)))
 (fun e12 ↦ some (Sum.inr (Sum.inr e12.1))) d11
 else some (Sum.inr (Sum.inl PUnit.unit))
noncomputable def sx_law8_CfgNumbers_6_2_0 (x : X_law8_CfgNumbers_6_2_0) : Option (X_law8_CfgNumbers_6_2_0 ⊕ (X_law8_CfgNumbers_6_2_0_0 ⊕ X_law8_CfgNumbers_6_2_0_1)) := st_law8_CfgNumbers_6_2_0 x.1 x.2.1 x.2.2.1 x.2.2.2.1 x.2.2.2.2.1 x.2.2.2.2.2
theorem rn_law8_CfgNumbers_6_2_0 (x : X_law8_CfgNumbers_6_2_0) : rdX cx_law8_CfgNumbers_6_2 keeps 8 ⟨6, 85, keeps 6, 0⟩ 2 (bodyX 6 2) 0 kp_law8_CfgNumbers_6_2 (sT s_law8_CfgNumbers_6_2_0 (un_law8_CfgNumbers_6_2_0 x)) (sH s_law8_CfgNumbers_6_2_0 (un_law8_CfgNumbers_6_2_0 x)) (rdO (fun T h => (rdS s_law8_CfgNumbers_6_2_0 T h).map fl_law8_CfgNumbers_6_2_0) (getOr (getE 4 x_law8_CfgNumbers_6_2_0_0 fl_law8_CfgNumbers_6_2_0_0) (getE 1 x_law8_CfgNumbers_6_2_0_1 fl_law8_CfgNumbers_6_2_0_1))) = sx_law8_CfgNumbers_6_2_0 x := by kernel_rfl
noncomputable def L_law8_CfgNumbers_6_2_0 (x : X_law8_CfgNumbers_6_2_0) : Option (X_law8_CfgNumbers_6_2_0_0 ⊕ X_law8_CfgNumbers_6_2_0_1) := iterO (fun x => st_law8_CfgNumbers_6_2_0 x.1 x.2.1 x.2.2.1 x.2.2.2.1 x.2.2.2.2.1 x.2.2.2.2.2) FUEL x
noncomputable def q_law8_CfgNumbers_6_2 : Nat → Tm → Prog (Nat × Tm) := (varP 0 (fun T h => (rdS s_law8_CfgNumbers_6_2_0 T h).map fl_law8_CfgNumbers_6_2_0) L_law8_CfgNumbers_6_2_0 (fun y => .alt y (altE 4 x_law8_CfgNumbers_6_2_0_0 un_law8_CfgNumbers_6_2_0_0) (altE 1 x_law8_CfgNumbers_6_2_0_1 un_law8_CfgNumbers_6_2_0_1)) (fun _ _ => .fail))
noncomputable def lc_law8_CfgNumbers_6_2 : Lpc := ⟨6, 2, 85, (fun base T => .norm base (kp_law8_CfgNumbers_6_2 0) T (q_law8_CfgNumbers_6_2 base)), by kernel_rfl, by kernel_rfl, (loopU sp_law8_CfgNumbers [lc_law8_CfgNumbers_6_0, lc_law8_CfgNumbers_6_6, lc_law8_CfgNumbers_6_4] 40 1048576 8 (keep := kp_law8_CfgNumbers_6_2) (q := q_law8_CfgNumbers_6_2) (by kernel_rfl) (varX_ok (s := s_law8_CfgNumbers_6_2_0) (un := un_law8_CfgNumbers_6_2_0) (by rfl) (fun _ => rfl) (getOr_ok (getE_ok (s := x_law8_CfgNumbers_6_2_0_0) (un := un_law8_CfgNumbers_6_2_0_0) (by rfl) (fun _ => rfl)) (getE_ok (s := x_law8_CfgNumbers_6_2_0_1) (un := un_law8_CfgNumbers_6_2_0_1) (by rfl) (fun _ => rfl))) (step := sx_law8_CfgNumbers_6_2_0) rn_law8_CfgNumbers_6_2_0 (fun _ _ e => ⟨_, e⟩) (altOr_ok (altE_ok 4 x_law8_CfgNumbers_6_2_0_0 un_law8_CfgNumbers_6_2_0_0) (altE_ok 1 x_law8_CfgNumbers_6_2_0_1 un_law8_CfgNumbers_6_2_0_1)) (VarOk.fail _ _)))⟩
noncomputable def g_law8_CfgNumbers (a0 : U) : Option Bool :=
  optC (G_law8_wide (a0, ())) none fun d6 ↦
 bif d6 then some true
 else
 optC (G_ref8_Is (a0, ())) none fun d7 ↦
 bif !d7 then some true
 else
 optC (G_cfg_Steps (a0, ())) none fun d8 ↦
 optC (L_law8_CfgNumbers_6_0_0 (d8, 1, a0)) none fun d9 ↦
 Sum.elim
 (fun e10 ↦ optC (L_law8_CfgNumbers_6_2_0 (e10.1, 0, e10.2)) none fun d11 ↦ Sum.elim (fun e12 ↦ some !decide (-1 ≥ 0)) (fun e12 ↦ some e12) d11)
 (fun e10 ↦ some e10.1) d9
theorem raw_law8_CfgNumbers (a0 : U) : evGX (cxU sp_law8_CfgNumbers [lc_law8_CfgNumbers_6_0, lc_law8_CfgNumbers_6_6, lc_law8_CfgNumbers_6_4, lc_law8_CfgNumbers_6_2] 40 1048576) keeps 8 6 ash_law8_CfgNumbers (.dat .bool) ((a0, ()) : (U × Unit)) = g_law8_CfgNumbers a0 := by kernel_rfl
noncomputable def G_law8_CfgNumbers (x : (U × Unit)) : Option Bool := g_law8_CfgNumbers x.1
noncomputable def con_law8_CfgNumbers : List AV → Prog AV := conP true ash_law8_CfgNumbers (.dat .bool) G_law8_CfgNumbers
theorem snd_law8_CfgNumbers : SoundA Tryz.prog 6 con_law8_CfgNumbers := conP_sound (calU sp_law8_CfgNumbers [lc_law8_CfgNumbers_6_0, lc_law8_CfgNumbers_6_6, lc_law8_CfgNumbers_6_4, lc_law8_CfgNumbers_6_2] 40 1048576 8 6) true (by rfl) (by rfl) (fun x r e => (evGX_eq _ _ _ _ _ _ _).trans ((raw_law8_CfgNumbers x.1).trans e)) (.inl rfl)
end Go.Proofs.YtmjbedjnojcmfaaGreatDoor.Ex

namespace Go.Proofs.YtmjbedjnojcmfaaGreatDoor.Ex
set_option maxRecDepth 100000
set_option maxHeartbeats 2000000
set_option linter.unusedVariables false
set_option linter.unusedSimpArgs false
noncomputable def bd_law8_CfgNumbers_6_6_0 (s5 : Int) (s6 : Int) (b0 : (List Int)) (b0_1 : (List Int)) (b0_2 : Int) (b0_3 : (List C)) (b1 : Int) (b1_1 : Int) (b1_2 : Int) (b1_3 : Int) (b1_4 : Int) (b1_5 : Int) (b1_6 : Int) (b1_7 : Int) (b1_8 : Int) (s3 : (List Int)) (i : Nat) (s8 : Bool) (d : Int) : Option (Bool ⊕ X_law8_CfgNumbers_6_6_0_0) :=
  bif !s8 then
   some (Sum.inl (d == b1_5))
 else some (Sum.inr (s3, s5, s6, s8, b0, b0_1, b0_2, b0_3))
noncomputable def fn_law8_CfgNumbers_6_6_0 (s5 : Int) (s6 : Int) (b0 : (List Int)) (b0_1 : (List Int)) (b0_2 : Int) (b0_3 : (List C)) (b1 : Int) (b1_1 : Int) (b1_2 : Int) (b1_3 : Int) (b1_4 : Int) (b1_5 : Int) (b1_6 : Int) (b1_7 : Int) (b1_8 : Int) (s3 : (List Int)) (s8 : Bool) : Option X_law8_CfgNumbers_6_6_0_0 :=
  some (s3, s5, s6, s8, b0, b0_1, b0_2, b0_3)
noncomputable abbrev rx_law8_CfgNumbers_6_6_0 (s5 : Int) (s6 : Int) (b0 : (List Int)) (b0_1 : (List Int)) (b0_2 : Int) (b0_3 : (List C)) (b1 : Int) (b1_1 : Int) (b1_2 : Int) (b1_3 : Int) (b1_4 : Int) (b1_5 : Int) (b1_6 : Int) (b1_7 : Int) (b1_8 : Int) (s3 : (List Int)) (i : Nat) (s : Bool) : X_law8_CfgNumbers_6_6_0 := (s3, s5, s6, s, (i : Int), b0, b0_1, b0_2, b0_3, b1, b1_1, b1_2, b1_3, b1_4, b1_5, b1_6, b1_7, b1_8)
noncomputable def rv_law8_CfgNumbers_6_6_0 (s5 : Int) (s6 : Int) (b0 : (List Int)) (b0_1 : (List Int)) (b0_2 : Int) (b0_3 : (List C)) (b1 : Int) (b1_1 : Int) (b1_2 : Int) (b1_3 : Int) (b1_4 : Int) (b1_5 : Int) (b1_6 : Int) (b1_7 : Int) (b1_8 : Int) (s3 : (List Int)) (s : Bool) : Option X_law8_CfgNumbers_6_6_0_0 := rangeO (fun i s d => bd_law8_CfgNumbers_6_6_0 s5 s6 b0 b0_1 b0_2 b0_3 b1 b1_1 b1_2 b1_3 b1_4 b1_5 b1_6 b1_7 b1_8 s3 i s d) (fun s => fn_law8_CfgNumbers_6_6_0 s5 s6 b0 b0_1 b0_2 b0_3 b1 b1_1 b1_2 b1_3 b1_4 b1_5 b1_6 b1_7 b1_8 s3 s) 0 s3 s
theorem rg_law8_CfgNumbers_6_6_0 (s5 : Int) (s6 : Int) (b0 : (List Int)) (b0_1 : (List Int)) (b0_2 : Int) (b0_3 : (List C)) (b1 : Int) (b1_1 : Int) (b1_2 : Int) (b1_3 : Int) (b1_4 : Int) (b1_5 : Int) (b1_6 : Int) (b1_7 : Int) (b1_8 : Int) (s3 : (List Int)) (s : Bool) (hl : s3.length < 9223372036854775807) : L_law8_CfgNumbers_6_6_0 (s3, s5, s6, s, 0, b0, b0_1, b0_2, b0_3, b1, b1_1, b1_2, b1_3, b1_4, b1_5, b1_6, b1_7, b1_8) = rv_law8_CfgNumbers_6_6_0 s5 s6 b0 b0_1 b0_2 b0_3 b1 b1_1 b1_2 b1_3 b1_4 b1_5 b1_6 b1_7 b1_8 s3 s := by
  unfold L_law8_CfgNumbers_6_6_0 rv_law8_CfgNumbers_6_6_0
  refine iterO_range0 s3 (rx_law8_CfgNumbers_6_6_0 s5 s6 b0 b0_1 b0_2 b0_3 b1 b1_1 b1_2 b1_3 b1_4 b1_5 b1_6 b1_7 b1_8 s3) _ _ ?_ ?_ s (by unfold FUEL; omega)
  · intro i s d hi hd
    have e1 : decide ((i : Int) < (s3.length : Int)) = true := decide_eq_true (by omega)
    have e2 : decide (0 ≤ (i : Int)) = true := decide_eq_true (by omega)
    have e3 : Int.toNat (i : Int) = i := Int.toNat_natCast i
    have e4 := wrap_next hi (Nat.le_of_lt hl)
    show st_law8_CfgNumbers_6_6_0 (s3) (s5) (s6) (s) ((i : Int)) (b0) (b0_1) (b0_2) (b0_3) (b1) (b1_1) (b1_2) (b1_3) (b1_4) (b1_5) (b1_6) (b1_7) (b1_8) = upd _ (bd_law8_CfgNumbers_6_6_0 s5 s6 b0 b0_1 b0_2 b0_3 b1 b1_1 b1_2 b1_3 b1_4 b1_5 b1_6 b1_7 b1_8 s3 i s d)
    unfold st_law8_CfgNumbers_6_6_0 bd_law8_CfgNumbers_6_6_0
    simp only [e1, e2, e3, e4, hd, cond_true, cond_false, optC_some, upd_cond, upd_optC, upd_elim, upd_inl, upd_inr, upd_none]
  · intro s
    have e1 : decide ((s3.length : Int) < (s3.length : Int)) = false := decide_eq_false (by omega)
    show st_law8_CfgNumbers_6_6_0 (s3) (s5) (s6) (s) ((s3.length : Int)) (b0) (b0_1) (b0_2) (b0_3) (b1) (b1_1) (b1_2) (b1_3) (b1_4) (b1_5) (b1_6) (b1_7) (b1_8) = _
    unfold st_law8_CfgNumbers_6_6_0 fn_law8_CfgNumbers_6_6_0
    rw [e1]
    rfl
end Go.Proofs.YtmjbedjnojcmfaaGreatDoor.Ex

