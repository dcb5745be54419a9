/- A part of the proofs of which programs may be: MG. -/
import Derived.Test.YtmjbedjnojcmfaaGreatDoorMF
import Derived.Shelf.Small.Strs
import Derived.Shelf.Strings.SlTrimAscii
import Derived.Test.YtmjbedjnojcmfaaGreatDoorMB
import Derived.Below
import Derived.Lib.Bytealg
import Derived.Lib.SlTrimSet
import Derived.Conc.MuLone
namespace Go.Proofs.YtmjbedjnojcmfaaGreatDoor.Ex
open Go.Proofs Go.Proofs.YtmjbedjnojcmfaaGreatDoor
set_option maxRecDepth 100000
set_option maxHeartbeats 2000000
set_option linter.unusedVariables false
set_option linter.unusedSimpArgs false
def ash_cf_act : List Sh := [.dat (.sl (.int .i64)), .clo 140 [] [.view [.int .i64, .sln tA] 0]]
def kp_cf_act_106_0 : Nat → List Nat := fun c => bif c.beq 0 then [0, 1, 7, 8] else [4]
noncomputable def sp_cf_act : List Con := [⟨56, con_cfg_isIn, snd_cfg_isIn⟩]
def s_cf_act_106_0_0 : StS := ⟨[(0, .sl (.int .i64)), (1, .clo 140 [] [.view [.int .i64, .sl tA] 0]), (7, .int .i64), (8, .int .i64)], [], 0⟩
def x_cf_act_106_0_0_0 : StS := ⟨[(4, .undef)], [], 0⟩
def x_cf_act_106_0_0_1 : StS := ⟨[(4, .int .i64)], [], 0⟩
abbrev X_cf_act_106_0_0 := ((List Int) × Int × (List A) × Int × Int)
def fl_cf_act_106_0_0 (d : StD s_cf_act_106_0_0) : X_cf_act_106_0_0 := (d.1.1, d.1.2.1.2.1.1, d.1.2.1.2.1.2.1, d.1.2.2.1, d.1.2.2.2.1)
def un_cf_act_106_0_0 (x : X_cf_act_106_0_0) : StD s_cf_act_106_0_0 := ((x.1, ((), ((x.2.1, x.2.2.1, ()), ())), x.2.2.2.1, x.2.2.2.2, ()), ())
abbrev X_cf_act_106_0_0_0 := Unit
def fl_cf_act_106_0_0_0 (d : StD x_cf_act_106_0_0_0) : X_cf_act_106_0_0_0 := ()
def un_cf_act_106_0_0_0 (x : X_cf_act_106_0_0_0) : StD x_cf_act_106_0_0_0 := (((), ()), ())
abbrev X_cf_act_106_0_0_1 := Int
def fl_cf_act_106_0_0_1 (d : StD x_cf_act_106_0_0_1) : X_cf_act_106_0_0_1 := (d.1.1)
def un_cf_act_106_0_0_1 (x : X_cf_act_106_0_0_1) : StD x_cf_act_106_0_0_1 := ((x, ()), ())
noncomputable def st_cf_act_106_0_0 (s0 : (List Int)) (s1 : Int) (s1_1 : (List A)) (s7 : Int) (s8 : Int) : Option (((List Int) × Int × (List A) × Int × Int) ⊕ (Unit ⊕ Int)) :=
  bif decide (s8 < s7) then
 bif decide (0 ≤ s8) then
 optC s0[s8.toNat]? none fun d7 ↦
 optC (G_cfg_isIn (d7, 0, Go.IntKind.i64.wrap (s1 - 1), ())) none fun d8 ↦
 bif !d8 then some (Sum.inr (Sum.inr s8)) else some (Sum.inl (s0, s1, s1_1, s7, Go.IntKind.i64.wrap (s8 + 1)))
 else none
 else some (Sum.inr (Sum.inl PUnit.unit))
noncomputable def sx_cf_act_106_0_0 (x : X_cf_act_106_0_0) : Option (X_cf_act_106_0_0 ⊕ (X_cf_act_106_0_0_0 ⊕ X_cf_act_106_0_0_1)) := st_cf_act_106_0_0 x.1 x.2.1 x.2.2.1 x.2.2.2.1 x.2.2.2.2
theorem rn_cf_act_106_0_0 (x : X_cf_act_106_0_0) : rdX (cxU sp_cf_act [] 40 (1048576 ^ 9)) keeps 8 ⟨106, 19, keeps 106, 0⟩ 0 (bodyX 106 0) 0 kp_cf_act_106_0 (sT s_cf_act_106_0_0 (un_cf_act_106_0_0 x)) (sH s_cf_act_106_0_0 (un_cf_act_106_0_0 x)) (rdO (fun T h => (rdS s_cf_act_106_0_0 T h).map fl_cf_act_106_0_0) (getOr (getE 2 x_cf_act_106_0_0_0 fl_cf_act_106_0_0_0) (getE 1 x_cf_act_106_0_0_1 fl_cf_act_106_0_0_1))) = sx_cf_act_106_0_0 x := by kernel_rfl
noncomputable def L_cf_act_106_0_0 (x : X_cf_act_106_0_0) : Option (X_cf_act_106_0_0_0 ⊕ X_cf_act_106_0_0_1) := iterO (fun x => st_cf_act_106_0_0 x.1 x.2.1 x.2.2.1 x.2.2.2.1 x.2.2.2.2) FUEL x
noncomputable def q_cf_act_106_0 : Nat → Tm → Prog (Nat × Tm) := (varP 0 (fun T h => (rdS s_cf_act_106_0_0 T h).map fl_cf_act_106_0_0) L_cf_act_106_0_0 (fun y => .alt y (altE 2 x_cf_act_106_0_0_0 un_cf_act_106_0_0_0) (altE 1 x_cf_act_106_0_0_1 un_cf_act_106_0_0_1)) (fun _ _ => .fail))
noncomputable def lc_cf_act_106_0 : Lpc := ⟨106, 0, 19, (fun base T => .norm base (kp_cf_act_106_0 0) T (q_cf_act_106_0 base)), by kernel_rfl, by kernel_rfl, (loopU sp_cf_act [] 40 (1048576 ^ 9) 8 (keep := kp_cf_act_106_0) (q := q_cf_act_106_0) (by kernel_rfl) (varX_ok (s := s_cf_act_106_0_0) (un := un_cf_act_106_0_0) (by rfl) (fun _ => rfl) (getOr_ok (getE_ok (s := x_cf_act_106_0_0_0) (un := un_cf_act_106_0_0_0) (by rfl) (fun _ => rfl)) (getE_ok (s := x_cf_act_106_0_0_1) (un := un_cf_act_106_0_0_1) (by rfl) (fun _ => rfl))) (step := sx_cf_act_106_0_0) rn_cf_act_106_0_0 (fun _ _ e => ⟨_, e⟩) (altOr_ok (altE_ok 2 x_cf_act_106_0_0_0 un_cf_act_106_0_0_0) (altE_ok 1 x_cf_act_106_0_0_1 un_cf_act_106_0_0_1)) (VarOk.fail _ _)))⟩
noncomputable def g_cf_act (a0 : (List Int)) (a1 : Int) (a2 : (List A)) : Option Bool :=
  optC (L_cf_act_106_0_0 (a0, a1, a2, (↑a0.length : Int), 0)) none fun d5 ↦ Sum.elim (fun e6 ↦ some (decide (-1 ≥ 0))) (fun e6 ↦ some (decide (e6 ≥ 0))) d5
theorem raw_cf_act (a0 : (List Int)) (a1 : Int) (a2 : (List A)) : evGX (cxU sp_cf_act [lc_cf_act_106_0] 40 (1048576 ^ 9)) keeps 8 57 ash_cf_act (.dat .bool) ((a0, ((), ((a1, a2, ()), ())), ()) : ((List Int) × ((Unit × ((Int × ((List A) × Unit)) × Unit)) × Unit))) = g_cf_act a0 a1 a2 := by kernel_rfl
noncomputable def G_cf_act (x : ((List Int) × ((Unit × ((Int × ((List A) × Unit)) × Unit)) × Unit))) : Option Bool := g_cf_act x.1 x.2.1.2.1.1 x.2.1.2.1.2.1
noncomputable def con_cf_act : List AV → Prog AV := conP true ash_cf_act (.dat .bool) G_cf_act
theorem snd_cf_act : SoundA Tryz.prog 57 con_cf_act := conP_sound (calU sp_cf_act [lc_cf_act_106_0] 40 (1048576 ^ 9) 8 57) true (by rfl) (by rfl) (fun x r e => (evGX_eq _ _ _ _ _ _ _).trans ((raw_cf_act x.1 x.2.1.2.1.1 x.2.1.2.1.2.1).trans e)) (.inl rfl)
end Go.Proofs.YtmjbedjnojcmfaaGreatDoor.Ex

namespace Go.Proofs.YtmjbedjnojcmfaaGreatDoor.Ex
open Go.Proofs Go.Proofs.YtmjbedjnojcmfaaGreatDoor
set_option maxRecDepth 100000
set_option maxHeartbeats 2000000
set_option linter.unusedVariables false
set_option linter.unusedSimpArgs false
def ash_cf_arr : List Sh := [.dat (.sl (.int .i64)), .clo 58 [] []]
def kp_cf_arr_106_0 : Nat → List Nat := fun c => bif c.beq 0 then [0, 1, 7, 8] else [4]
noncomputable def sp_cf_arr : List Con := [⟨56, con_cfg_isIn, snd_cfg_isIn⟩]
def s_cf_arr_106_0_0 : StS := ⟨[(0, .sl (.int .i64)), (1, .clo 58 [] []), (7, .int .i64), (8, .int .i64)], [], 0⟩
def x_cf_arr_106_0_0_0 : StS := ⟨[(4, .undef)], [], 0⟩
def x_cf_arr_106_0_0_1 : StS := ⟨[(4, .int .i64)], [], 0⟩
abbrev X_cf_arr_106_0_0 := ((List Int) × Int × Int)
def fl_cf_arr_106_0_0 (d : StD s_cf_arr_106_0_0) : X_cf_arr_106_0_0 := (d.1.1, d.1.2.2.1, d.1.2.2.2.1)
def un_cf_arr_106_0_0 (x : X_cf_arr_106_0_0) : StD s_cf_arr_106_0_0 := ((x.1, ((), ()), x.2.1, x.2.2, ()), ())
abbrev X_cf_arr_106_0_0_0 := Unit
def fl_cf_arr_106_0_0_0 (d : StD x_cf_arr_106_0_0_0) : X_cf_arr_106_0_0_0 := ()
def un_cf_arr_106_0_0_0 (x : X_cf_arr_106_0_0_0) : StD x_cf_arr_106_0_0_0 := (((), ()), ())
abbrev X_cf_arr_106_0_0_1 := Int
def fl_cf_arr_106_0_0_1 (d : StD x_cf_arr_106_0_0_1) : X_cf_arr_106_0_0_1 := (d.1.1)
def un_cf_arr_106_0_0_1 (x : X_cf_arr_106_0_0_1) : StD x_cf_arr_106_0_0_1 := ((x, ()), ())
noncomputable def st_cf_arr_106_0_0 (s0 : (List Int)) (s7 : Int) (s8 : Int) : Option (((List Int) × Int × Int) ⊕ (Unit ⊕ Int)) :=
  bif decide (s8 < s7) then
 bif decide (0 ≤ s8) then
 optC s0[s8.toNat]? none fun d5 ↦
 optC (G_cfg_isIn (d5, 1, 16, ())) none fun d6 ↦ bif !d6 then some (Sum.inr (Sum.inr s8)) else some (Sum.inl (s0, s7, Go.IntKind.i64.wrap (s8 + 1)))
 else none
 else some (Sum.inr (Sum.inl PUnit.unit))
noncomputable def sx_cf_arr_106_0_0 (x : X_cf_arr_106_0_0) : Option (X_cf_arr_106_0_0 ⊕ (X_cf_arr_106_0_0_0 ⊕ X_cf_arr_106_0_0_1)) := st_cf_arr_106_0_0 x.1 x.2.1 x.2.2
theorem rn_cf_arr_106_0_0 (x : X_cf_arr_106_0_0) : rdX (cxU sp_cf_arr [] 40 (1048576 ^ 9)) keeps 8 ⟨106, 19, keeps 106, 0⟩ 0 (bodyX 106 0) 0 kp_cf_arr_106_0 (sT s_cf_arr_106_0_0 (un_cf_arr_106_0_0 x)) (sH s_cf_arr_106_0_0 (un_cf_arr_106_0_0 x)) (rdO (fun T h => (rdS s_cf_arr_106_0_0 T h).map fl_cf_arr_106_0_0) (getOr (getE 2 x_cf_arr_106_0_0_0 fl_cf_arr_106_0_0_0) (getE 1 x_cf_arr_106_0_0_1 fl_cf_arr_106_0_0_1))) = sx_cf_arr_106_0_0 x := by kernel_rfl
noncomputable def L_cf_arr_106_0_0 (x : X_cf_arr_106_0_0) : Option (X_cf_arr_106_0_0_0 ⊕ X_cf_arr_106_0_0_1) := iterO (fun x => st_cf_arr_106_0_0 x.1 x.2.1 x.2.2) FUEL x
noncomputable def q_cf_arr_106_0 : Nat → Tm → Prog (Nat × Tm) := (varP 0 (fun T h => (rdS s_cf_arr_106_0_0 T h).map fl_cf_arr_106_0_0) L_cf_arr_106_0_0 (fun y => .alt y (altE 2 x_cf_arr_106_0_0_0 un_cf_arr_106_0_0_0) (altE 1 x_cf_arr_106_0_0_1 un_cf_arr_106_0_0_1)) (fun _ _ => .fail))
noncomputable def lc_cf_arr_106_0 : Lpc := ⟨106, 0, 19, (fun base T => .norm base (kp_cf_arr_106_0 0) T (q_cf_arr_106_0 base)), by kernel_rfl, by kernel_rfl, (loopU sp_cf_arr [] 40 (1048576 ^ 9) 8 (keep := kp_cf_arr_106_0) (q := q_cf_arr_106_0) (by kernel_rfl) (varX_ok (s := s_cf_arr_106_0_0) (un := un_cf_arr_106_0_0) (by rfl) (fun _ => rfl) (getOr_ok (getE_ok (s := x_cf_arr_106_0_0_0) (un := un_cf_arr_106_0_0_0) (by rfl) (fun _ => rfl)) (getE_ok (s := x_cf_arr_106_0_0_1) (un := un_cf_arr_106_0_0_1) (by rfl) (fun _ => rfl))) (step := sx_cf_arr_106_0_0) rn_cf_arr_106_0_0 (fun _ _ e => ⟨_, e⟩) (altOr_ok (altE_ok 2 x_cf_arr_106_0_0_0 un_cf_arr_106_0_0_0) (altE_ok 1 x_cf_arr_106_0_0_1 un_cf_arr_106_0_0_1)) (VarOk.fail _ _)))⟩
noncomputable def g_cf_arr (a0 : (List Int)) : Option Bool :=
  optC (L_cf_arr_106_0_0 (a0, (↑a0.length : Int), 0)) none fun d3 ↦ Sum.elim (fun e4 ↦ some (decide (-1 ≥ 0))) (fun e4 ↦ some (decide (e4 ≥ 0))) d3
theorem raw_cf_arr (a0 : (List Int)) : evGX (cxU sp_cf_arr [lc_cf_arr_106_0] 40 (1048576 ^ 9)) keeps 8 57 ash_cf_arr (.dat .bool) ((a0, ((), ()), ()) : ((List Int) × ((Unit × Unit) × Unit))) = g_cf_arr a0 := by kernel_rfl
noncomputable def G_cf_arr (x : ((List Int) × ((Unit × Unit) × Unit))) : Option Bool := g_cf_arr x.1
noncomputable def con_cf_arr : List AV → Prog AV := conP true ash_cf_arr (.dat .bool) G_cf_arr
theorem snd_cf_arr : SoundA Tryz.prog 57 con_cf_arr := conP_sound (calU sp_cf_arr [lc_cf_arr_106_0] 40 (1048576 ^ 9) 8 57) true (by rfl) (by rfl) (fun x r e => (evGX_eq _ _ _ _ _ _ _).trans ((raw_cf_arr x.1).trans e)) (.inl rfl)
end Go.Proofs.YtmjbedjnojcmfaaGreatDoor.Ex

namespace Go.Proofs.YtmjbedjnojcmfaaGreatDoor.Ex
open Go.Proofs Go.Proofs.YtmjbedjnojcmfaaGreatDoor
set_option maxRecDepth 100000
set_option maxHeartbeats 2000000
set_option linter.unusedVariables false
set_option linter.unusedSimpArgs false
def ash_cfg_named : List Sh := [.dat tA]
noncomputable def sp_cfg_named : List Con := []
noncomputable def g_cfg_named (a0 : A) : Option A :=
  bif a0.1 == 1 then some (a0.1, a0.2.1, 0, 0, 0, a0.2.2.2.2.2.1, 0, a0.2.2.2.2.2.2.2.1, 0)
 else
 bif a0.1 == 2 then some (a0.1, a0.2.1, a0.2.2.1, 0, 0, 0, 0, a0.2.2.2.2.2.2.2.1, 0)
 else
 bif a0.1 == 3 then some (a0.1, a0.2.1, 0, 0, 0, 0, 0, a0.2.2.2.2.2.2.2.1, 0)
 else
 bif a0.1 == 4 then some (a0.1, a0.2.1, a0.2.2.1, a0.2.2.2.1, 0, 0, a0.2.2.2.2.2.2.1, a0.2.2.2.2.2.2.2.1, 0)
 else
 bif a0.1 == 5 then some (a0.1, a0.2.1, 0, 0, a0.2.2.2.2.1, 0, 0, a0.2.2.2.2.2.2.2.1, 0)
 else
 bif a0.1 == 6 then some (a0.1, 0, a0.2.2.1, 0, a0.2.2.2.2.1, 0, 0, a0.2.2.2.2.2.2.2.1, 0)
 else
 bif a0.1 == 7 then some (a0.1, a0.2.1, a0.2.2.1, 0, a0.2.2.2.2.1, 0, 0, a0.2.2.2.2.2.2.2.1, 0)
 else
 bif a0.1 == 8 then some (a0.1, 0, a0.2.2.1, a0.2.2.2.1, a0.2.2.2.2.1, 0, 0, a0.2.2.2.2.2.2.2.1, 0)
 else
 bif a0.1 == 9 then some (a0.1, 0, 0, 0, a0.2.2.2.2.1, 0, 0, a0.2.2.2.2.2.2.2.1, 0)
 else
 bif a0.1 == 10 then some (a0.1, 0, 0, 0, a0.2.2.2.2.1, 0, 0, a0.2.2.2.2.2.2.2.1, 0)
 else
 bif a0.1 == 11 then
 some (a0.1, 0, a0.2.2.1, a0.2.2.2.1, 0, 0, a0.2.2.2.2.2.2.1, a0.2.2.2.2.2.2.2.1, a0.2.2.2.2.2.2.2.2)
 else some (a0.1, 0, 0, 0, 0, 0, 0, a0.2.2.2.2.2.2.2.1, 0)
theorem raw_cfg_named (a0 : A) : evGX (cxU sp_cfg_named [] 40 1048576) keeps 8 137 ash_cfg_named (.dat tA) ((a0, ()) : (A × Unit)) = g_cfg_named a0 := by kernel_rfl
noncomputable def G_cfg_named (x : (A × Unit)) : Option A := g_cfg_named x.1
noncomputable def con_cfg_named : List AV → Prog AV := conP true ash_cfg_named (.dat tA) G_cfg_named
theorem snd_cfg_named : SoundA Tryz.prog 137 con_cfg_named := conP_sound (calU sp_cfg_named [] 40 1048576 8 137) true (by rfl) (by rfl) (fun x r e => (evGX_eq _ _ _ _ _ _ _).trans ((raw_cfg_named x.1).trans e)) (.inl rfl)
end Go.Proofs.YtmjbedjnojcmfaaGreatDoor.Ex

namespace Go.Proofs.YtmjbedjnojcmfaaGreatDoor.Ex
open Go.Proofs Go.Proofs.YtmjbedjnojcmfaaGreatDoor
set_option maxRecDepth 100000
set_option maxHeartbeats 2000000
set_option linter.unusedVariables false
set_option linter.unusedSimpArgs false
def ash_cfg_shared : List Sh := [.dat tU, .dat (.int .i64)]
noncomputable def sp_cfg_shared : List Con := []
noncomputable def g_cfg_shared (a0 : U) (a1 : Int) : Option Int :=
  bif a1 == 5 then some (↑(List.length a0.1) : Int)
 else
 bif a1 == 6 then some (↑(List.length a0.1) : Int)
 else
 bif a1 == 7 then some (↑(List.length a0.2.1) : Int)
 else bif a1 == 8 then some (↑(List.length a0.2.1) : Int) else bif a1 == 9 then some a0.2.2.1 else bif a1 == 10 then some a0.2.2.1 else some 1
theorem raw_cfg_shared (a0 : U) (a1 : Int) : evGX (cxU sp_cfg_shared [] 40 1048576) keeps 8 138 ash_cfg_shared (.dat (.int .i64)) ((a0, a1, ()) : (U × (Int × Unit))) = g_cfg_shared a0 a1 := by kernel_rfl
noncomputable def G_cfg_shared (x : (U × (Int × Unit))) : Option Int := g_cfg_shared x.1 x.2.1
noncomputable def con_cfg_shared : List AV → Prog AV := conP true ash_cfg_shared (.dat (.int .i64)) G_cfg_shared
theorem snd_cfg_shared : SoundA Tryz.prog 138 con_cfg_shared := conP_sound (calU sp_cfg_shared [] 40 1048576 8 138) true (by rfl) (by rfl) (fun x r e => (evGX_eq _ _ _ _ _ _ _).trans ((raw_cfg_shared x.1 x.2.1).trans e)) (.inl rfl)
end Go.Proofs.YtmjbedjnojcmfaaGreatDoor.Ex

namespace Go.Proofs.YtmjbedjnojcmfaaGreatDoor.Ex
open Go.Proofs Go.Proofs.YtmjbedjnojcmfaaGreatDoor
set_option maxRecDepth 100000
set_option maxHeartbeats 2000000
set_option linter.unusedVariables false
set_option linter.unusedSimpArgs false
def ash_cfg_vars : List Sh := [.dat tA]
noncomputable def sp_cfg_vars : List Con := []
noncomputable def g_cfg_vars (a0 : A) : Option (List Int) :=
  bif a0.1 == 1 then some [a0.2.1]
 else
 bif a0.1 == 3 then some [a0.2.1]
 else
 bif a0.1 == 5 then some [a0.2.1]
 else
 bif a0.1 == 2 then some [a0.2.1, a0.2.2.1]
 else
 bif a0.1 == 7 then some [a0.2.1, a0.2.2.1]
 else
 bif a0.1 == 4 then some [a0.2.1, a0.2.2.1, a0.2.2.2.1]
 else
 bif a0.1 == 6 then some [a0.2.2.1]
 else bif a0.1 == 8 then some [a0.2.2.1, a0.2.2.2.1] else bif a0.1 == 11 then some [a0.2.2.1, a0.2.2.2.1] else some []
theorem raw_cfg_vars (a0 : A) : evGX (cxU sp_cfg_vars [] 40 1048576) keeps 8 139 ash_cfg_vars (.dat (.sl (.int .i64))) ((a0, ()) : (A × Unit)) = g_cfg_vars a0 := by kernel_rfl
noncomputable def G_cfg_vars (x : (A × Unit)) : Option (List Int) := g_cfg_vars x.1
noncomputable def con_cfg_vars : List AV → Prog AV := conP true ash_cfg_vars (.dat (.sl (.int .i64))) G_cfg_vars
theorem snd_cfg_vars : SoundA Tryz.prog 139 con_cfg_vars := conP_sound (calU sp_cfg_vars [] 40 1048576 8 139) true (by rfl) (by rfl) (fun x r e => (evGX_eq _ _ _ _ _ _ _).trans ((raw_cfg_vars x.1).trans e)) (.inl rfl)
end Go.Proofs.YtmjbedjnojcmfaaGreatDoor.Ex

namespace Go.Proofs.YtmjbedjnojcmfaaGreatDoor.Ex
open Go.Proofs Go.Proofs.YtmjbedjnojcmfaaGreatDoor
set_option maxRecDepth 100000
set_option maxHeartbeats 2000000
set_option linter.unusedVariables false
set_option linter.unusedSimpArgs false
def ash_cfg_isAct : List Sh := [.dat tU, .dat tC, .dat tA]
noncomputable def sp_cfg_isAct : List Con := [⟨56, con_cfg_isIn, snd_cfg_isIn⟩, ⟨137, con_cfg_named, snd_cfg_named⟩, ⟨55, con_num_Fits, snd_num_Fits⟩, ⟨138, con_cfg_shared, snd_cfg_shared⟩, ⟨139, con_cfg_vars, snd_cfg_vars⟩, ⟨57, (pickS (isClo 1 140) con_cf_act con_cf_arr), (SoundA.pick (isClo 1 140) snd_cf_act snd_cf_arr)⟩]
noncomputable def g_cfg_isAct (a0 : U) (a1 : C) (a2 : A) : Option Bool :=
  bif a2.1 == 4 then
 optC (G_cfg_isIn (a2.1, 1, 14, ())) none fun d4 ↦
 bif d4 then
 optC (G_cfg_named (a2, ())) none fun d5 ↦
 bif
 d5.1 == a2.1 &&
 (d5.2.1 == a2.2.1 &&
 (d5.2.2.1 == a2.2.2.1 &&
 (d5.2.2.2.1 == a2.2.2.2.1 &&
 (d5.2.2.2.2.1 == a2.2.2.2.2.1 &&
 (d5.2.2.2.2.2.1 == a2.2.2.2.2.2.1 &&
 (d5.2.2.2.2.2.2.1 == a2.2.2.2.2.2.2.1 &&
 (d5.2.2.2.2.2.2.2.1 == a2.2.2.2.2.2.2.2.1 && d5.2.2.2.2.2.2.2.2 == a2.2.2.2.2.2.2.2.2))))))) then
 optC (G_cfg_isIn (a2.2.2.2.2.2.2.2.1, 0, Go.IntKind.i64.wrap ((↑(List.length a1.2) : Int) - 1), ())) none fun d6 ↦
 bif d6 then
 optC (G_cfg_isIn (a2.2.2.2.2.2.2.2.2, 0, Go.IntKind.i64.wrap ((↑(List.length a1.2) : Int) - 1), ())) none fun d7 ↦
 bif d7 then
 optC (G_num_Fits ([a2.2.2.2.2.2.1], ())) none fun d8 ↦
 bif d8 then
 optC (G_cfg_isIn (a2.2.2.2.2.2.2.1, if (1 : Int) < 5 then 1 else 5, 5, ())) none fun d9 ↦
 bif d9 then
 optC (G_cfg_shared (a0, a2.1, ())) none fun d10 ↦
 optC (G_cfg_isIn (a2.2.2.2.2.1, 0, Go.IntKind.i64.wrap (d10 - 1), ())) none fun d11 ↦
 bif d11 then
 optC (G_cfg_vars (a2, ())) none fun d12 ↦
 optC (G_cf_act (d12, ((), (a1.1, a1.2, ()), ()), ())) none fun d13 ↦ some !d13
 else some false
 else some false
 else some false
 else some false
 else some false
 else some false
 else some false
 else
 bif a2.1 == 11 then
 optC (G_cfg_isIn (a2.1, 1, 14, ())) none fun d4 ↦
 bif d4 then
 optC (G_cfg_named (a2, ())) none fun d5 ↦
 bif
 d5.1 == a2.1 &&
 (d5.2.1 == a2.2.1 &&
 (d5.2.2.1 == a2.2.2.1 &&
 (d5.2.2.2.1 == a2.2.2.2.1 &&
 (d5.2.2.2.2.1 == a2.2.2.2.2.1 &&
 (d5.2.2.2.2.2.1 == a2.2.2.2.2.2.1 &&
 (d5.2.2.2.2.2.2.1 == a2.2.2.2.2.2.2.1 &&
 (d5.2.2.2.2.2.2.2.1 == a2.2.2.2.2.2.2.2.1 && d5.2.2.2.2.2.2.2.2 == a2.2.2.2.2.2.2.2.2))))))) then
 optC (G_cfg_isIn (a2.2.2.2.2.2.2.2.1, 0, Go.IntKind.i64.wrap ((↑(List.length a1.2) : Int) - 1), ())) none fun d6 ↦
 bif d6 then
 optC (G_cfg_isIn (a2.2.2.2.2.2.2.2.2, 0, Go.IntKind.i64.wrap ((↑(List.length a1.2) : Int) - 1), ())) none fun d7 ↦
 bif d7 then
 optC (G_num_Fits ([a2.2.2.2.2.2.1], ())) none fun d8 ↦
 bif d8 then
 optC (G_cfg_isIn (a2.2.2.2.2.2.2.1, if (1 : Int) < 6 then 1 else 6, 6, ())) none fun d9 ↦
 bif d9 then
 optC (G_cfg_shared (a0, a2.1, ())) none fun d10 ↦
 optC (G_cfg_isIn (a2.2.2.2.2.1, 0, Go.IntKind.i64.wrap (d10 - 1), ())) none fun d11 ↦
 bif d11 then
 optC (G_cfg_vars (a2, ())) none fun d12 ↦
 optC (G_cf_act (d12, ((), (a1.1, a1.2, ()), ()), ())) none fun d13 ↦ some !d13
 else some false
 else some false
 else some false
 else some false
 else some false
 else some false
 else some false
 else
 optC (G_cfg_isIn (a2.1, 1, 14, ())) none fun d4 ↦
 bif d4 then
 optC (G_cfg_named (a2, ())) none fun d5 ↦
 bif
 d5.1 == a2.1 &&
 (d5.2.1 == a2.2.1 &&
 (d5.2.2.1 == a2.2.2.1 &&
 (d5.2.2.2.1 == a2.2.2.2.1 &&
 (d5.2.2.2.2.1 == a2.2.2.2.2.1 &&
 (d5.2.2.2.2.2.1 == a2.2.2.2.2.2.1 &&
 (d5.2.2.2.2.2.2.1 == a2.2.2.2.2.2.2.1 &&
 (d5.2.2.2.2.2.2.2.1 == a2.2.2.2.2.2.2.2.1 && d5.2.2.2.2.2.2.2.2 == a2.2.2.2.2.2.2.2.2))))))) then
 optC (G_cfg_isIn (a2.2.2.2.2.2.2.2.1, 0, Go.IntKind.i64.wrap ((↑(List.length a1.2) : Int) - 1), ())) none fun d6 ↦
 bif d6 then
 optC (G_cfg_isIn (a2.2.2.2.2.2.2.2.2, 0, Go.IntKind.i64.wrap ((↑(List.length a1.2) : Int) - 1), ())) none fun d7 ↦
 bif d7 then
 optC (G_num_Fits ([a2.2.2.2.2.2.1], ())) none fun d8 ↦
 bif d8 then
 optC (G_cfg_isIn (a2.2.2.2.2.2.2.1, if (1 : Int) < 0 then 1 else 0, 0, ())) none fun d9 ↦
 bif d9 then
 optC (G_cfg_shared (a0, a2.1, ())) none fun d10 ↦
 optC (G_cfg_isIn (a2.2.2.2.2.1, 0, Go.IntKind.i64.wrap (d10 - 1), ())) none fun d11 ↦
 bif d11 then
 optC (G_cfg_vars (a2, ())) none fun d12 ↦
 optC (G_cf_act (d12, ((), (a1.1, a1.2, ()), ()), ())) none fun d13 ↦ some !d13
 else some false
 else some false
 else some false
 else some false
 else some false
 else some false
 else some false
theorem raw_cfg_isAct (a0 : U) (a1 : C) (a2 : A) : evGX (cxU sp_cfg_isAct [] 40 1048576) keeps 8 110 ash_cfg_isAct (.dat .bool) ((a0, a1, a2, ()) : (U × (C × (A × Unit)))) = g_cfg_isAct a0 a1 a2 := by kernel_rfl
noncomputable def G_cfg_isAct (x : (U × (C × (A × Unit)))) : Option Bool := g_cfg_isAct x.1 x.2.1 x.2.2.1
noncomputable def con_cfg_isAct : List AV → Prog AV := conP true ash_cfg_isAct (.dat .bool) G_cfg_isAct
theorem snd_cfg_isAct : SoundA Tryz.prog 110 con_cfg_isAct := conP_sound (calU sp_cfg_isAct [] 40 1048576 8 110) true (by rfl) (by rfl) (fun x r e => (evGX_eq _ _ _ _ _ _ _).trans ((raw_cfg_isAct x.1 x.2.1 x.2.2.1).trans e)) (.inl rfl)
end Go.Proofs.YtmjbedjnojcmfaaGreatDoor.Ex

namespace Go.Proofs.YtmjbedjnojcmfaaGreatDoor.Ex
open Go.Proofs Go.Proofs.YtmjbedjnojcmfaaGreatDoor
set_option maxRecDepth 100000
set_option maxHeartbeats 2000000
set_option linter.unusedVariables false
set_option linter.unusedSimpArgs false
abbrev ty_94_0 : Type := ((List A) × ((Unit × (((List Int) × ((List Int) × (Int × ((List C) × Unit)))) × ((Int × ((List A) × Unit)) × Unit))) × Unit))
abbrev ty_94_1 : Type := ((List A) × (List Int) × (List Int) × Int × (List C) × Int × (List A) × Int × Int)
def ash_cf_code : List Sh := [.dat (.sl tA), .clo 109 [] [.view [.sln (.int .i64), .sln (.int .i64), .int .i64, .sln tC] 0, .view [.int .i64, .sln tA] 0]]
def kp_cf_code_136_0 : Nat → List Nat := fun c => bif c.beq 0 then [0, 1, 7, 8] else [4]
noncomputable def sp_cf_code : List Con := [⟨110, con_cfg_isAct, snd_cfg_isAct⟩]
def s_cf_code_136_0_0 : StS := ⟨[(0, .sl tA), (1, .clo 109 [] [.view [.sl (.int .i64), .sl (.int .i64), .int .i64, .sl tC] 0, .view [.int .i64, .sl tA] 0]), (7, .int .i64), (8, .int .i64)], [], 0⟩
def x_cf_code_136_0_0_0 : StS := ⟨[(4, .undef)], [], 0⟩
def x_cf_code_136_0_0_1 : StS := ⟨[(4, .int .i64)], [], 0⟩
abbrev X_cf_code_136_0_0 := ty_94_1
def fl_cf_code_136_0_0 (d : StD s_cf_code_136_0_0) : X_cf_code_136_0_0 := (d.1.1, d.1.2.1.2.1.1, d.1.2.1.2.1.2.1, d.1.2.1.2.1.2.2.1, d.1.2.1.2.1.2.2.2.1, d.1.2.1.2.2.1.1, d.1.2.1.2.2.1.2.1, d.1.2.2.1, d.1.2.2.2.1)
def un_cf_code_136_0_0 (x : X_cf_code_136_0_0) : StD s_cf_code_136_0_0 := ((x.1, ((), ((x.2.1, x.2.2.1, x.2.2.2.1, x.2.2.2.2.1, ()), (x.2.2.2.2.2.1, x.2.2.2.2.2.2.1, ()), ())), x.2.2.2.2.2.2.2.1, x.2.2.2.2.2.2.2.2, ()), ())
abbrev X_cf_code_136_0_0_0 := Unit
def fl_cf_code_136_0_0_0 (d : StD x_cf_code_136_0_0_0) : X_cf_code_136_0_0_0 := ()
def un_cf_code_136_0_0_0 (x : X_cf_code_136_0_0_0) : StD x_cf_code_136_0_0_0 := (((), ()), ())
abbrev X_cf_code_136_0_0_1 := Int
def fl_cf_code_136_0_0_1 (d : StD x_cf_code_136_0_0_1) : X_cf_code_136_0_0_1 := (d.1.1)
def un_cf_code_136_0_0_1 (x : X_cf_code_136_0_0_1) : StD x_cf_code_136_0_0_1 := ((x, ()), ())
noncomputable def st_cf_code_136_0_0 (s0 : (List A)) (s1 : (List Int)) (s1_1 : (List Int)) (s1_2 : Int) (s1_3 : (List C)) (s1_4 : Int) (s1_5 : (List A)) (s7 : Int) (s8 : Int) : Option (ty_94_1 ⊕ (Unit ⊕ Int)) :=
  bif decide (s8 < s7) then
 bif decide (0 ≤ s8) then
 optC s0[s8.toNat]? none fun d11 ↦
 optC (G_cfg_isAct ((s1, s1_1, s1_2, s1_3), (s1_4, s1_5), d11, ())) none fun d12 ↦
 bif !d12 then some (Sum.inr (Sum.inr s8)) else some (Sum.inl (s0, s1, s1_1, s1_2, s1_3, s1_4, s1_5, s7, Go.IntKind.i64.wrap (s8 + 1)))
 else none
 else some (Sum.inr (Sum.inl PUnit.unit))
noncomputable def sx_cf_code_136_0_0 (x : X_cf_code_136_0_0) : Option (X_cf_code_136_0_0 ⊕ (X_cf_code_136_0_0_0 ⊕ X_cf_code_136_0_0_1)) := st_cf_code_136_0_0 x.1 x.2.1 x.2.2.1 x.2.2.2.1 x.2.2.2.2.1 x.2.2.2.2.2.1 x.2.2.2.2.2.2.1 x.2.2.2.2.2.2.2.1 x.2.2.2.2.2.2.2.2
theorem rn_cf_code_136_0_0 (x : X_cf_code_136_0_0) : rdX (cxU sp_cf_code [] 40 (1048576 ^ 9)) keeps 8 ⟨136, 19, keeps 136, 0⟩ 0 (bodyX 136 0) 0 kp_cf_code_136_0 (sT s_cf_code_136_0_0 (un_cf_code_136_0_0 x)) (sH s_cf_code_136_0_0 (un_cf_code_136_0_0 x)) (rdO (fun T h => (rdS s_cf_code_136_0_0 T h).map fl_cf_code_136_0_0) (getOr (getE 2 x_cf_code_136_0_0_0 fl_cf_code_136_0_0_0) (getE 1 x_cf_code_136_0_0_1 fl_cf_code_136_0_0_1))) = sx_cf_code_136_0_0 x := by kernel_rfl
noncomputable def L_cf_code_136_0_0 (x : X_cf_code_136_0_0) : Option (X_cf_code_136_0_0_0 ⊕ X_cf_code_136_0_0_1) := iterO (fun x => st_cf_code_136_0_0 x.1 x.2.1 x.2.2.1 x.2.2.2.1 x.2.2.2.2.1 x.2.2.2.2.2.1 x.2.2.2.2.2.2.1 x.2.2.2.2.2.2.2.1 x.2.2.2.2.2.2.2.2) FUEL x
noncomputable def q_cf_code_136_0 : Nat → Tm → Prog (Nat × Tm) := (varP 0 (fun T h => (rdS s_cf_code_136_0_0 T h).map fl_cf_code_136_0_0) L_cf_code_136_0_0 (fun y => .alt y (altE 2 x_cf_code_136_0_0_0 un_cf_code_136_0_0_0) (altE 1 x_cf_code_136_0_0_1 un_cf_code_136_0_0_1)) (fun _ _ => .fail))
noncomputable def lc_cf_code_136_0 : Lpc := ⟨136, 0, 19, (fun base T => .norm base (kp_cf_code_136_0 0) T (q_cf_code_136_0 base)), by kernel_rfl, by kernel_rfl, (loopU sp_cf_code [] 40 (1048576 ^ 9) 8 (keep := kp_cf_code_136_0) (q := q_cf_code_136_0) (by kernel_rfl) (varX_ok (s := s_cf_code_136_0_0) (un := un_cf_code_136_0_0) (by rfl) (fun _ => rfl) (getOr_ok (getE_ok (s := x_cf_code_136_0_0_0) (un := un_cf_code_136_0_0_0) (by rfl) (fun _ => rfl)) (getE_ok (s := x_cf_code_136_0_0_1) (un := un_cf_code_136_0_0_1) (by rfl) (fun _ => rfl))) (step := sx_cf_code_136_0_0) rn_cf_code_136_0_0 (fun _ _ e => ⟨_, e⟩) (altOr_ok (altE_ok 2 x_cf_code_136_0_0_0 un_cf_code_136_0_0_0) (altE_ok 1 x_cf_code_136_0_0_1 un_cf_code_136_0_0_1)) (VarOk.fail _ _)))⟩
noncomputable def g_cf_code (a0 : (List A)) (a1 : (List Int)) (a2 : (List Int)) (a3 : Int) (a4 : (List C)) (a5 : Int) (a6 : (List A)) : Option Bool :=
  optC (L_cf_code_136_0_0 (a0, a1, a2, a3, a4, a5, a6, (↑a0.length : Int), 0)) none fun d9 ↦
 Sum.elim (fun e10 ↦ some (decide (-1 ≥ 0))) (fun e10 ↦ some (decide (e10 ≥ 0))) d9
theorem raw_cf_code (a0 : (List A)) (a1 : (List Int)) (a2 : (List Int)) (a3 : Int) (a4 : (List C)) (a5 : Int) (a6 : (List A)) : evGX (cxU sp_cf_code [lc_cf_code_136_0] 40 (1048576 ^ 9)) keeps 8 108 ash_cf_code (.dat .bool) ((a0, ((), ((a1, a2, a3, a4, ()), (a5, a6, ()), ())), ()) : ty_94_0) = g_cf_code a0 a1 a2 a3 a4 a5 a6 := by kernel_rfl
noncomputable def G_cf_code (x : ty_94_0) : Option Bool := g_cf_code x.1 x.2.1.2.1.1 x.2.1.2.1.2.1 x.2.1.2.1.2.2.1 x.2.1.2.1.2.2.2.1 x.2.1.2.2.1.1 x.2.1.2.2.1.2.1
noncomputable def con_cf_code : List AV → Prog AV := conP true ash_cf_code (.dat .bool) G_cf_code
theorem snd_cf_code : SoundA Tryz.prog 108 con_cf_code := conP_sound (calU sp_cf_code [lc_cf_code_136_0] 40 (1048576 ^ 9) 8 108) true (by rfl) (by rfl) (fun x r e => (evGX_eq _ _ _ _ _ _ _).trans ((raw_cf_code x.1 x.2.1.2.1.1 x.2.1.2.1.2.1 x.2.1.2.1.2.2.1 x.2.1.2.1.2.2.2.1 x.2.1.2.2.1.1 x.2.1.2.2.1.2.1).trans e)) (.inl rfl)
end Go.Proofs.YtmjbedjnojcmfaaGreatDoor.Ex

namespace Go.Proofs.YtmjbedjnojcmfaaGreatDoor.Ex
open Go.Proofs Go.Proofs.YtmjbedjnojcmfaaGreatDoor
set_option maxRecDepth 100000
set_option maxHeartbeats 2000000
set_option linter.unusedVariables false
set_option linter.unusedSimpArgs false
def ash_cfg_isCode : List Sh := [.dat tU, .dat tC]
noncomputable def sp_cfg_isCode : List Con := [⟨56, con_cfg_isIn, snd_cfg_isIn⟩, ⟨108, con_cf_code, snd_cf_code⟩, ⟨110, con_cfg_isAct, snd_cfg_isAct⟩]
noncomputable def g_cfg_isCode (a0 : U) (a1 : C) : Option Bool :=
  optC (G_cfg_isIn (a1.1, 0, 40, ())) none fun d3 ↦
 bif d3 then
 optC (G_cfg_isIn ((↑(List.length a1.2) : Int), 1, 60, ())) none fun d4 ↦
 bif d4 then
 bif decide (0 ≤ Go.IntKind.i64.wrap ((↑(List.length a1.2) : Int) - 1)) then
 optC a1.2[(Go.IntKind.i64.wrap ((↑(List.length a1.2) : Int) - 1)).toNat]? none fun d5 ↦
 bif d5.1 == 14 then
 optC (G_cf_code (a1.2, ((), (a0.1, a0.2.1, a0.2.2.1, a0.2.2.2, ()), (a1.1, a1.2, ()), ()), ())) none fun d6 ↦ some !d6
 else some false
 else none
 else some false
 else some false
theorem raw_cfg_isCode (a0 : U) (a1 : C) : evGX (cxU sp_cfg_isCode [] 40 1048576) keeps 8 61 ash_cfg_isCode (.dat .bool) ((a0, a1, ()) : (U × (C × Unit))) = g_cfg_isCode a0 a1 := by kernel_rfl
noncomputable def G_cfg_isCode (x : (U × (C × Unit))) : Option Bool := g_cfg_isCode x.1 x.2.1
noncomputable def con_cfg_isCode : List AV → Prog AV := conP true ash_cfg_isCode (.dat .bool) G_cfg_isCode
theorem snd_cfg_isCode : SoundA Tryz.prog 61 con_cfg_isCode := conP_sound (calU sp_cfg_isCode [] 40 1048576 8 61) true (by rfl) (by rfl) (fun x r e => (evGX_eq _ _ _ _ _ _ _).trans ((raw_cfg_isCode x.1 x.2.1).trans e)) (.inl rfl)
end Go.Proofs.YtmjbedjnojcmfaaGreatDoor.Ex

namespace Go.Proofs.YtmjbedjnojcmfaaGreatDoor.Ex
open Go.Proofs Go.Proofs.YtmjbedjnojcmfaaGreatDoor
set_option maxRecDepth 100000
set_option maxHeartbeats 2000000
set_option linter.unusedVariables false
set_option linter.unusedSimpArgs false
abbrev ty_96_0 : Type := ((List C) × ((Unit × (((List Int) × ((List Int) × (Int × ((List C) × Unit)))) × Unit)) × Unit))
def ash_cf_thr : List Sh := [.dat (.sl tC), .clo 60 [] [.view [.sln (.int .i64), .sln (.int .i64), .int .i64, .sln tC] 0]]
def kp_cf_thr_107_0 : Nat → List Nat := fun c => bif c.beq 0 then [0, 1, 7, 8] else [4]
noncomputable def sp_cf_thr : List Con := [⟨61, con_cfg_isCode, snd_cfg_isCode⟩]
def s_cf_thr_107_0_0 : StS := ⟨[(0, .sl tC), (1, .clo 60 [] [.view [.sl (.int .i64), .sl (.int .i64), .int .i64, .sl tC] 0]), (7, .int .i64), (8, .int .i64)], [], 0⟩
def x_cf_thr_107_0_0_0 : StS := ⟨[(4, .undef)], [], 0⟩
def x_cf_thr_107_0_0_1 : StS := ⟨[(4, .int .i64)], [], 0⟩
abbrev X_cf_thr_107_0_0 := ((List C) × (List Int) × (List Int) × Int × (List C) × Int × Int)
def fl_cf_thr_107_0_0 (d : StD s_cf_thr_107_0_0) : X_cf_thr_107_0_0 := (d.1.1, d.1.2.1.2.1.1, d.1.2.1.2.1.2.1, d.1.2.1.2.1.2.2.1, d.1.2.1.2.1.2.2.2.1, d.1.2.2.1, d.1.2.2.2.1)
def un_cf_thr_107_0_0 (x : X_cf_thr_107_0_0) : StD s_cf_thr_107_0_0 := ((x.1, ((), ((x.2.1, x.2.2.1, x.2.2.2.1, x.2.2.2.2.1, ()), ())), x.2.2.2.2.2.1, x.2.2.2.2.2.2, ()), ())
abbrev X_cf_thr_107_0_0_0 := Unit
def fl_cf_thr_107_0_0_0 (d : StD x_cf_thr_107_0_0_0) : X_cf_thr_107_0_0_0 := ()
def un_cf_thr_107_0_0_0 (x : X_cf_thr_107_0_0_0) : StD x_cf_thr_107_0_0_0 := (((), ()), ())
abbrev X_cf_thr_107_0_0_1 := Int
def fl_cf_thr_107_0_0_1 (d : StD x_cf_thr_107_0_0_1) : X_cf_thr_107_0_0_1 := (d.1.1)
def un_cf_thr_107_0_0_1 (x : X_cf_thr_107_0_0_1) : StD x_cf_thr_107_0_0_1 := ((x, ()), ())
noncomputable def st_cf_thr_107_0_0 (s0 : (List C)) (s1 : (List Int)) (s1_1 : (List Int)) (s1_2 : Int) (s1_3 : (List C)) (s7 : Int) (s8 : Int) : Option (((List C) × (List Int) × (List Int) × Int × (List C) × Int × Int) ⊕ (Unit ⊕ Int)) :=
  bif decide (s8 < s7) then
 bif decide (0 ≤ s8) then
 optC s0[s8.toNat]? none fun d9 ↦
 optC (G_cfg_isCode ((s1, s1_1, s1_2, s1_3), d9, ())) none fun d10 ↦
 bif !d10 then some (Sum.inr (Sum.inr s8)) else some (Sum.inl (s0, s1, s1_1, s1_2, s1_3, s7, Go.IntKind.i64.wrap (s8 + 1)))
 else none
 else some (Sum.inr (Sum.inl PUnit.unit))
noncomputable def sx_cf_thr_107_0_0 (x : X_cf_thr_107_0_0) : Option (X_cf_thr_107_0_0 ⊕ (X_cf_thr_107_0_0_0 ⊕ X_cf_thr_107_0_0_1)) := st_cf_thr_107_0_0 x.1 x.2.1 x.2.2.1 x.2.2.2.1 x.2.2.2.2.1 x.2.2.2.2.2.1 x.2.2.2.2.2.2
theorem rn_cf_thr_107_0_0 (x : X_cf_thr_107_0_0) : rdX (cxU sp_cf_thr [] 40 (1048576 ^ 9)) keeps 8 ⟨107, 19, keeps 107, 0⟩ 0 (bodyX 107 0) 0 kp_cf_thr_107_0 (sT s_cf_thr_107_0_0 (un_cf_thr_107_0_0 x)) (sH s_cf_thr_107_0_0 (un_cf_thr_107_0_0 x)) (rdO (fun T h => (rdS s_cf_thr_107_0_0 T h).map fl_cf_thr_107_0_0) (getOr (getE 2 x_cf_thr_107_0_0_0 fl_cf_thr_107_0_0_0) (getE 1 x_cf_thr_107_0_0_1 fl_cf_thr_107_0_0_1))) = sx_cf_thr_107_0_0 x := by kernel_rfl
noncomputable def L_cf_thr_107_0_0 (x : X_cf_thr_107_0_0) : Option (X_cf_thr_107_0_0_0 ⊕ X_cf_thr_107_0_0_1) := iterO (fun x => st_cf_thr_107_0_0 x.1 x.2.1 x.2.2.1 x.2.2.2.1 x.2.2.2.2.1 x.2.2.2.2.2.1 x.2.2.2.2.2.2) FUEL x
noncomputable def q_cf_thr_107_0 : Nat → Tm → Prog (Nat × Tm) := (varP 0 (fun T h => (rdS s_cf_thr_107_0_0 T h).map fl_cf_thr_107_0_0) L_cf_thr_107_0_0 (fun y => .alt y (altE 2 x_cf_thr_107_0_0_0 un_cf_thr_107_0_0_0) (altE 1 x_cf_thr_107_0_0_1 un_cf_thr_107_0_0_1)) (fun _ _ => .fail))
noncomputable def lc_cf_thr_107_0 : Lpc := ⟨107, 0, 19, (fun base T => .norm base (kp_cf_thr_107_0 0) T (q_cf_thr_107_0 base)), by kernel_rfl, by kernel_rfl, (loopU sp_cf_thr [] 40 (1048576 ^ 9) 8 (keep := kp_cf_thr_107_0) (q := q_cf_thr_107_0) (by kernel_rfl) (varX_ok (s := s_cf_thr_107_0_0) (un := un_cf_thr_107_0_0) (by rfl) (fun _ => rfl) (getOr_ok (getE_ok (s := x_cf_thr_107_0_0_0) (un := un_cf_thr_107_0_0_0) (by rfl) (fun _ => rfl)) (getE_ok (s := x_cf_thr_107_0_0_1) (un := un_cf_thr_107_0_0_1) (by rfl) (fun _ => rfl))) (step := sx_cf_thr_107_0_0) rn_cf_thr_107_0_0 (fun _ _ e => ⟨_, e⟩) (altOr_ok (altE_ok 2 x_cf_thr_107_0_0_0 un_cf_thr_107_0_0_0) (altE_ok 1 x_cf_thr_107_0_0_1 un_cf_thr_107_0_0_1)) (VarOk.fail _ _)))⟩
noncomputable def g_cf_thr (a0 : (List C)) (a1 : (List Int)) (a2 : (List Int)) (a3 : Int) (a4 : (List C)) : Option Bool :=
  optC (L_cf_thr_107_0_0 (a0, a1, a2, a3, a4, (↑a0.length : Int), 0)) none fun d7 ↦
 Sum.elim (fun e8 ↦ some (decide (-1 ≥ 0))) (fun e8 ↦ some (decide (e8 ≥ 0))) d7
theorem raw_cf_thr (a0 : (List C)) (a1 : (List Int)) (a2 : (List Int)) (a3 : Int) (a4 : (List C)) : evGX (cxU sp_cf_thr [lc_cf_thr_107_0] 40 (1048576 ^ 9)) keeps 8 59 ash_cf_thr (.dat .bool) ((a0, ((), ((a1, a2, a3, a4, ()), ())), ()) : ty_96_0) = g_cf_thr a0 a1 a2 a3 a4 := by kernel_rfl
noncomputable def G_cf_thr (x : ty_96_0) : Option Bool := g_cf_thr x.1 x.2.1.2.1.1 x.2.1.2.1.2.1 x.2.1.2.1.2.2.1 x.2.1.2.1.2.2.2.1
noncomputable def con_cf_thr : List AV → Prog AV := conP true ash_cf_thr (.dat .bool) G_cf_thr
theorem snd_cf_thr : SoundA Tryz.prog 59 con_cf_thr := conP_sound (calU sp_cf_thr [lc_cf_thr_107_0] 40 (1048576 ^ 9) 8 59) true (by rfl) (by rfl) (fun x r e => (evGX_eq _ _ _ _ _ _ _).trans ((raw_cf_thr x.1 x.2.1.2.1.1 x.2.1.2.1.2.1 x.2.1.2.1.2.2.1 x.2.1.2.1.2.2.2.1).trans e)) (.inl rfl)
end Go.Proofs.YtmjbedjnojcmfaaGreatDoor.Ex

namespace Go.Proofs.YtmjbedjnojcmfaaGreatDoor.Ex
open Go.Proofs Go.Proofs.YtmjbedjnojcmfaaGreatDoor
set_option maxRecDepth 100000
set_option maxHeartbeats 2000000
set_option linter.unusedVariables false
set_option linter.unusedSimpArgs false
def ash_cfg_Is : List Sh := [.dat tU]
noncomputable def sp_cfg_Is : List Con := [⟨55, con_num_Fits, snd_num_Fits⟩, ⟨56, con_cfg_isIn, snd_cfg_isIn⟩, ⟨57, (pickS (isClo 1 140) con_cf_act con_cf_arr), (SoundA.pick (isClo 1 140) snd_cf_act snd_cf_arr)⟩, ⟨59, con_cf_thr, snd_cf_thr⟩, ⟨61, con_cfg_isCode, snd_cfg_isCode⟩]
noncomputable def g_cfg_Is (a0 : U) : Option Bool :=
  bif decide ((↑(List.length a0.1) : Int) ≤ 6) then
 optC (G_num_Fits (a0.1, ())) none fun d2 ↦
 bif d2 then
 bif decide ((↑(List.length a0.2.1) : Int) ≤ 3) then
 optC (G_cfg_isIn (a0.2.2.1, 0, 6, ())) none fun d3 ↦
 bif d3 then
 optC (G_cfg_isIn ((↑(List.length a0.2.2.2) : Int), 1, 4, ())) none fun d4 ↦
 bif d4 then
 optC (G_cf_arr (a0.2.1, ((), ()), ())) none fun d5 ↦
 bif !d5 then optC (G_cf_thr (a0.2.2.2, ((), (a0.1, a0.2.1, a0.2.2.1, a0.2.2.2, ()), ()), ())) none fun d6 ↦ some !d6
 else some false
 else some false
 else some false
 else some false
 else some false
 else some false
theorem raw_cfg_Is (a0 : U) : evGX (cxU sp_cfg_Is [] 40 1048576) keeps 8 26 ash_cfg_Is (.dat .bool) ((a0, ()) : (U × Unit)) = g_cfg_Is a0 := by kernel_rfl
noncomputable def G_cfg_Is (x : (U × Unit)) : Option Bool := g_cfg_Is x.1
noncomputable def con_cfg_Is : List AV → Prog AV := conP true ash_cfg_Is (.dat .bool) G_cfg_Is
theorem snd_cfg_Is : SoundA Tryz.prog 26 con_cfg_Is := conP_sound (calU sp_cfg_Is [] 40 1048576 8 26) true (by rfl) (by rfl) (fun x r e => (evGX_eq _ _ _ _ _ _ _).trans ((raw_cfg_Is x.1).trans e)) (.inl rfl)
end Go.Proofs.YtmjbedjnojcmfaaGreatDoor.Ex

namespace Go.Proofs.YtmjbedjnojcmfaaGreatDoor.Ex
open Go.Proofs Go.Proofs.YtmjbedjnojcmfaaGreatDoor
set_option maxRecDepth 100000
set_option maxHeartbeats 2000000
set_option linter.unusedVariables false
set_option linter.unusedSimpArgs false
def ash_check_fits : List Sh := [.dat tPg]
def kp_check_fits_124_0 : Nat → List Nat := fun c => bif c.beq 0 then [0, 1, 7, 8] else [4]
noncomputable def sp_check_fits : List Con := []
def s_check_fits_124_0_0 : StS := ⟨[(0, .sl tTh), (1, .clo 90 [] [.ptr 1 0]), (7, .int .i64), (8, .int .i64)], [(1, .box [.clo 77 [] []]), (0, .box [.sl tGb, .sl tGb, .sl .str, .sl tTh])], 2⟩
def x_check_fits_124_0_0_0 : StS := ⟨[(4, .undef)], [(1, .box [.clo 77 [] []]), (0, .box [.sl tGb, .sl tGb, .sl .str, .sl tTh])], 2⟩
def x_check_fits_124_0_0_1 : StS := ⟨[(4, .int .i64)], [(1, .box [.clo 77 [] []]), (0, .box [.sl tGb, .sl tGb, .sl .str, .sl tTh])], 2⟩
abbrev X_check_fits_124_0_0 := ((List Th) × Int × Int × (List Gb) × (List Gb) × (List ByteArray) × (List Th))
def fl_check_fits_124_0_0 (d : StD s_check_fits_124_0_0) : X_check_fits_124_0_0 := (d.1.1, d.1.2.2.1, d.1.2.2.2.1, d.2.2.1.1, d.2.2.1.2.1, d.2.2.1.2.2.1, d.2.2.1.2.2.2.1)
def un_check_fits_124_0_0 (x : X_check_fits_124_0_0) : StD s_check_fits_124_0_0 := ((x.1, ((), ((), ())), x.2.1, x.2.2.1, ()), ((((), ()), ()), (x.2.2.2.1, x.2.2.2.2.1, x.2.2.2.2.2.1, x.2.2.2.2.2.2, ()), ()))
abbrev X_check_fits_124_0_0_0 := ((List Gb) × (List Gb) × (List ByteArray) × (List Th))
def fl_check_fits_124_0_0_0 (d : StD x_check_fits_124_0_0_0) : X_check_fits_124_0_0_0 := (d.2.2.1.1, d.2.2.1.2.1, d.2.2.1.2.2.1, d.2.2.1.2.2.2.1)
def un_check_fits_124_0_0_0 (x : X_check_fits_124_0_0_0) : StD x_check_fits_124_0_0_0 := (((), ()), ((((), ()), ()), (x.1, x.2.1, x.2.2.1, x.2.2.2, ()), ()))
abbrev X_check_fits_124_0_0_1 := (Int × (List Gb) × (List Gb) × (List ByteArray) × (List Th))
def fl_check_fits_124_0_0_1 (d : StD x_check_fits_124_0_0_1) : X_check_fits_124_0_0_1 := (d.1.1, d.2.2.1.1, d.2.2.1.2.1, d.2.2.1.2.2.1, d.2.2.1.2.2.2.1)
def un_check_fits_124_0_0_1 (x : X_check_fits_124_0_0_1) : StD x_check_fits_124_0_0_1 := ((x.1, ()), ((((), ()), ()), (x.2.1, x.2.2.1, x.2.2.2.1, x.2.2.2.2, ()), ()))
noncomputable def st_check_fits_124_0_0 (s0 : (List Th)) (s7 : Int) (s8 : Int) (b0 : (List Gb)) (b0_1 : (List Gb)) (b0_2 : (List ByteArray)) (b0_3 : (List Th)) : Option (((List Th) × Int × Int × (List Gb) × (List Gb) × (List ByteArray) × (List Th)) ⊕ (((List Gb) × (List Gb) × (List ByteArray) × (List Th)) ⊕ (Int × (List Gb) × (List Gb) × (List ByteArray) × (List Th)))) :=
  bif decide (s8 < s7) then
 bif decide (0 ≤ s8) then
 optC s0[s8.toNat]? none fun d9 ↦
 bif !decide ((↑(List.length d9.2.1) : Int) ≤ 6) then some (Sum.inr (Sum.inr (s8, b0, b0_1, b0_2, b0_3)))
 else some (Sum.inl (s0, s7, Go.IntKind.i64.wrap (s8 + 1), b0, b0_1, b0_2, b0_3))
 else none
 else some (Sum.inr (Sum.inl (b0, b0_1, b0_2, b0_3)))
noncomputable def sx_check_fits_124_0_0 (x : X_check_fits_124_0_0) : Option (X_check_fits_124_0_0 ⊕ (X_check_fits_124_0_0_0 ⊕ X_check_fits_124_0_0_1)) := st_check_fits_124_0_0 x.1 x.2.1 x.2.2.1 x.2.2.2.1 x.2.2.2.2.1 x.2.2.2.2.2.1 x.2.2.2.2.2.2
theorem rn_check_fits_124_0_0 (x : X_check_fits_124_0_0) : rdX (cxU sp_check_fits [] 40 1048576) keeps 8 ⟨124, 19, keeps 124, 2⟩ 0 (bodyX 124 0) 2 kp_check_fits_124_0 (sT s_check_fits_124_0_0 (un_check_fits_124_0_0 x)) (sH s_check_fits_124_0_0 (un_check_fits_124_0_0 x)) (rdO (fun T h => (rdS s_check_fits_124_0_0 T h).map fl_check_fits_124_0_0) (getOr (getE 2 x_check_fits_124_0_0_0 fl_check_fits_124_0_0_0) (getE 1 x_check_fits_124_0_0_1 fl_check_fits_124_0_0_1))) = sx_check_fits_124_0_0 x := by kernel_rfl
noncomputable def L_check_fits_124_0_0 (x : X_check_fits_124_0_0) : Option (X_check_fits_124_0_0_0 ⊕ X_check_fits_124_0_0_1) := iterO (fun x => st_check_fits_124_0_0 x.1 x.2.1 x.2.2.1 x.2.2.2.1 x.2.2.2.2.1 x.2.2.2.2.2.1 x.2.2.2.2.2.2) FUEL x
noncomputable def q_check_fits_124_0 : Nat → Tm → Prog (Nat × Tm) := (varP 2 (fun T h => (rdS s_check_fits_124_0_0 T h).map fl_check_fits_124_0_0) L_check_fits_124_0_0 (fun y => .alt y (altE 2 x_check_fits_124_0_0_0 un_check_fits_124_0_0_0) (altE 1 x_check_fits_124_0_0_1 un_check_fits_124_0_0_1)) (fun _ _ => .fail))
noncomputable def lc_check_fits_124_0 : Lpc := ⟨124, 0, 19, (fun base T => .norm base (kp_check_fits_124_0 0) T (q_check_fits_124_0 base)), by kernel_rfl, by kernel_rfl, (loopU sp_check_fits [] 40 1048576 8 (keep := kp_check_fits_124_0) (q := q_check_fits_124_0) (by kernel_rfl) (varX_ok (s := s_check_fits_124_0_0) (un := un_check_fits_124_0_0) (by rfl) (fun _ => rfl) (getOr_ok (getE_ok (s := x_check_fits_124_0_0_0) (un := un_check_fits_124_0_0_0) (by rfl) (fun _ => rfl)) (getE_ok (s := x_check_fits_124_0_0_1) (un := un_check_fits_124_0_0_1) (by rfl) (fun _ => rfl))) (step := sx_check_fits_124_0_0) rn_check_fits_124_0_0 (fun _ _ e => ⟨_, e⟩) (altOr_ok (altE_ok 2 x_check_fits_124_0_0_0 un_check_fits_124_0_0_0) (altE_ok 1 x_check_fits_124_0_0_1 un_check_fits_124_0_0_1)) (VarOk.fail _ _)))⟩
noncomputable def g_check_fits (a0 : Pg) : Option Bool :=
  bif decide ((↑(List.length a0.1) : Int) ≤ 6) then
 bif decide ((↑(List.length a0.2.1) : Int) ≤ 3) then
 bif decide ((↑(List.length a0.2.2.1) : Int) ≤ 6) then
 bif decide ((↑(List.length a0.2.2.2) : Int) ≤ 4) then
 optC (L_check_fits_124_0_0 (a0.2.2.2, (↑(List.length a0.2.2.2) : Int), 0, a0)) none fun d3 ↦
 Sum.elim (fun e4 ↦ some !decide (-1 ≥ 0)) (fun e4 ↦ some !decide (e4.1 ≥ 0)) d3
 else some false
 else some false
 else some false
 else some false
theorem raw_check_fits (a0 : Pg) : evGX (cxU sp_check_fits [lc_check_fits_124_0] 40 1048576) keeps 8 37 ash_check_fits (.dat .bool) ((a0, ()) : (Pg × Unit)) = g_check_fits a0 := by kernel_rfl
noncomputable def G_check_fits (x : (Pg × Unit)) : Option Bool := g_check_fits x.1
noncomputable def con_check_fits : List AV → Prog AV := conP false ash_check_fits (.dat .bool) G_check_fits
theorem snd_check_fits : SoundA Tryz.prog 37 con_check_fits := conP_sound (calU sp_check_fits [lc_check_fits_124_0] 40 1048576 8 37) false (by rfl) (by rfl) (fun x r e => (evGX_eq _ _ _ _ _ _ _).trans ((raw_check_fits x.1).trans e)) (.inr fun _ => rfl)
end Go.Proofs.YtmjbedjnojcmfaaGreatDoor.Ex

namespace Go.Proofs.YtmjbedjnojcmfaaGreatDoor.Ex
open Go.Proofs Go.Shelf Go.Proofs.YtmjbedjnojcmfaaGreatDoor
def lays137_ren_H : Go.Shelf.Ren := ⟨fun | 137 => 118 | 217 => 154 | 266 => 180 | n => n, fun | 9 => 9 | 5 => 5 | 3 => 3 | n => n, fun | n => n⟩
theorem lays137_H : Go.Proofs.Lays.n137 Tryz.prog lays137_ren_H := {
  mixed := by kernel_rfl
  f137 := Tryz.func118.trans (congrArg some (by kernel_rfl))
  f217 := Tryz.func154.trans (congrArg some (by kernel_rfl))
  f266 := Tryz.func180.trans (congrArg some (by kernel_rfl))
  t3 := Tryz.underlying3
  a3 := Tryz.isAgg3
  z3 := Tryz.sizeOf3
  v3 := Tryz.zeroValue3
  t5 := Tryz.underlying5
  a5 := Tryz.isAgg5
  z5 := Tryz.sizeOf5
  v5 := Tryz.zeroValue5
  t9 := Tryz.underlying9
  a9 := Tryz.isAgg9
  z9 := Tryz.sizeOf9
  v9 := Tryz.zeroValue9 }
open Go.RowKit in
theorem strings_IndexByte_H (s : ByteArray) (c : Int) (w : World) :
    Calls Tryz.prog 118 #[.string s, .int .u8 c] w fun e w' => e = .returned (.int .i64 (Lib.indexByte s.data.toList c.toNat.toUInt8)) ∧ w' = w := Any.strings_IndexByte lays137_H s c w
def lays160_ren_H : Go.Shelf.Ren := ⟨fun | 160 => 119 | 232 => 156 | 231 => 155 | 227 => 157 | 234 => 159 | 233 => 158 | 236 => 161 | 235 => 160 | 228 => 181 | 271 => 184 | 151 => 183 | 197 => 182 | 120 => 191 | 152 => 190 | 260 => 189 | 137 => 118 | 119 => 193 | 224 => 194 | 225 => 195 | 217 => 154 | 266 => 180 | n => n, fun | 9 => 9 | 4 => 4 | 3 => 3 | 5 => 5 | 117 => 167 | 116 => 166 | 0 => 0 | 124 => 170 | 21 => 21 | 105 => 187 | 46 => 134 | 119 => 198 | 139 => 201 | 138 => 200 | n => n, fun | 3 => 1 | 4 => 2 | n => n⟩
theorem lays160_H : Go.Proofs.Lays.n160 Tryz.prog lays160_ren_H := {
  mixed := by kernel_rfl
  f119 := Tryz.func193.trans (congrArg some (by kernel_rfl))
  f120 := Tryz.func191.trans (congrArg some (by kernel_rfl))
  f137 := Tryz.func118.trans (congrArg some (by kernel_rfl))
  f151 := Tryz.func183.trans (congrArg some (by kernel_rfl))
  f152 := Tryz.func190.trans (congrArg some (by kernel_rfl))
  f160 := Tryz.func119.trans (congrArg some (by kernel_rfl))
  f197 := Tryz.func182.trans (congrArg some (by kernel_rfl))
  f217 := Tryz.func154.trans (congrArg some (by kernel_rfl))
  f224 := Tryz.func194.trans (congrArg some (by kernel_rfl))
  f225 := Tryz.func195.trans (congrArg some (by kernel_rfl))
  f227 := Tryz.func157.trans (congrArg some (by kernel_rfl))
  f228 := Tryz.func181.trans (congrArg some (by kernel_rfl))
  f231 := Tryz.func155.trans (congrArg some (by kernel_rfl))
  f232 := Tryz.func156.trans (congrArg some (by kernel_rfl))
  f233 := Tryz.func158.trans (congrArg some (by kernel_rfl))
  f234 := Tryz.func159.trans (congrArg some (by kernel_rfl))
  f235 := Tryz.func160.trans (congrArg some (by kernel_rfl))
  f236 := Tryz.func161.trans (congrArg some (by kernel_rfl))
  f260 := Tryz.func189.trans (congrArg some (by kernel_rfl))
  f266 := Tryz.func180.trans (congrArg some (by kernel_rfl))
  f271 := Tryz.func184.trans (congrArg some (by kernel_rfl))
  t0 := Tryz.underlying0
  a0 := Tryz.isAgg0
  z0 := Tryz.sizeOf0
  v0 := Tryz.zeroValue0
  t3 := Tryz.underlying3
  a3 := Tryz.isAgg3
  z3 := Tryz.sizeOf3
  v3 := Tryz.zeroValue3
  t4 := Tryz.underlying4
  a4 := Tryz.isAgg4
  z4 := Tryz.sizeOf4
  v4 := Tryz.zeroValue4
  t5 := Tryz.underlying5
  a5 := Tryz.isAgg5
  z5 := Tryz.sizeOf5
  v5 := Tryz.zeroValue5
  t9 := Tryz.underlying9
  a9 := Tryz.isAgg9
  z9 := Tryz.sizeOf9
  v9 := Tryz.zeroValue9
  t21 := Tryz.underlying21
  a21 := Tryz.isAgg21
  z21 := Tryz.sizeOf21
  v21 := Tryz.zeroValue21
  t46 := Tryz.underlying134
  a46 := Tryz.isAgg134
  z46 := Tryz.sizeOf134
  v46 := Tryz.zeroValue134
  t105 := Tryz.underlying187
  a105 := Tryz.isAgg187
  z105 := Tryz.sizeOf187
  v105 := Tryz.zeroValue187
  t116 := Tryz.underlying166
  a116 := Tryz.isAgg166
  z116 := Tryz.sizeOf166
  t117 := Tryz.underlying167
  a117 := Tryz.isAgg167
  z117 := Tryz.sizeOf167
  v117 := Tryz.zeroValue167
  t119 := Tryz.underlying198
  a119 := Tryz.isAgg198
  z119 := Tryz.sizeOf198
  t124 := Tryz.underlying170
  a124 := Tryz.isAgg170
  z124 := Tryz.sizeOf170
  v124 := Tryz.zeroValue170
  t138 := Tryz.underlying200
  a138 := Tryz.isAgg200
  z138 := Tryz.sizeOf200
  v138 := Tryz.zeroValue200
  t139 := Tryz.underlying201
  a139 := Tryz.isAgg201
  z139 := Tryz.sizeOf201
  v139 := Tryz.zeroValue201
  g3 := by kernel_rfl
  g4 := by kernel_rfl }
open Go.RowKit in
theorem strings_Trim_H (s c : ByteArray) (w : World) (hs : s.size ≤ 9223372036854775807) (hc : c.size < 4294967281) (ha : ∀ (j : Nat) b, c.data.toList[j]? = some b → b.toNat < 128) :
    Calls Tryz.prog 119 #[.string s, .string c] w fun e w' => e = .returned (.string ⟨(Lib.trimS s.data.toList c.data.toList).toArray⟩) ∧ Below w.heap.size w w' := Any.strings_Trim_laid lays160_H (by kernel_rfl) s c w hs hc ha
end Go.Proofs.YtmjbedjnojcmfaaGreatDoor.Ex

namespace Go.Proofs.YtmjbedjnojcmfaaGreatDoor.Ex
set_option linter.unusedVariables false
set_option linter.unusedSectionVars false
section
variable [RT] {P : Program}
theorem post_below {tr : Bool} {ok : Nat → Prop} {hdr : Nat → Value} {S : Stb} {h : Hp} {w w' : World} (hr : HReal hdr S h.blks w) (hm : Ment ok h.blks) (hb : RowKit.Below w.heap.size w w') : Post tr ok hdr S h w hdr S h w' :=
  ⟨Nat.le_refl _, fun _ _ => rfl, ⟨fun id b hf => (hr.blk id b hf).congr (fun _ _ k => k) rfl (fun _ _ => rfl) fun n hn => hb.block n ((hr.blk id b hf).lt hn), hr.sep, hr.stb, fun n cs k => let ⟨e, f, q⟩ := hr.mem n cs k; ⟨e, f, (hb.block n (hr.stb_lt k)).trans q⟩⟩,
    ⟨hb.os, hb.tape, hb.output, hb.size, fun n hn _ => hb.block n hn, fun n h => .inl h, fun _ _ k => k, fun _ _ k => .inl k⟩, hm.mono fun _ k => .inl k⟩
def trimV (s c : ByteArray) : ByteArray := ⟨(Lib.trimS s.data.toList c.data.toList).toArray⟩
def trimP (args : List AV) : Prog AV := match args with
  | [.str s, .str c] => .ite (decide (s.size ≤ 9223372036854775807)) (bif leB c.size 1000 && c.data.toList.all (fun b => decide (b.toNat < 128)) then .ret (.str (trimV s c)) else .fail) .fail
  | _ => .fail
theorem trim_sound {g : FuncId} (hcall : Callable P g) (hc : ∀ (s c : ByteArray) (w : World), s.size ≤ 9223372036854775807 → c.size < 4294967281 → (∀ (j : Nat) b, c.data.toList[j]? = some b → b.toNat < 128) →
    Calls P g #[.string s, .string c] w fun e w' => e = .returned (.string ⟨(Lib.trimS s.data.toList c.data.toList).toArray⟩) ∧ RowKit.Below w.heap.size w w') : SoundA P g trimP := by
  intro tr args h ft v h' ft' vals hdr S w ok e hr hm hv hi hO
  refine ⟨hcall, ?_⟩
  unfold trimP at e
  split at e
  case h_2 => exact (ex_fail e).elim
  rename_i s c
  rcases ex_ite e with ⟨h1, e⟩ | ⟨_, e⟩
  case inr => exact (ex_fail e).elim
  have h1 := of_decide_eq_true h1
  rcases ex_cond e with ⟨h2, e⟩ | ⟨_, e⟩
  case inr => exact (ex_fail e).elim
  simp only [Bool.and_eq_true] at h2
  have hcs := leB_iff.1 h2.1
  cases ex_ret e
  cases hv with | cons _ _ _ _ ha hv =>
  cases hv with | cons _ _ _ _ hb hv =>
  cases hv
  cases ha
  cases hb
  refine (hc s c w h1 (by omega) fun j b hj => of_decide_eq_true (List.all_eq_true.1 h2.2 b (List.mem_of_getElem? hj))).mono ?_
  rintro en w' ⟨rfl, hB⟩
  exact ⟨_, hdr, S, rfl, post_below hr hm hB, .str _, fun n hn => by cases hn⟩
def idxBP (args : List AV) : Prog AV := match args with
  | [.str s, .int .u8 c] => .ret (.int .i64 (Lib.indexByte s.data.toList c.toNat.toUInt8))
  | _ => .fail
theorem idxB_sound {g : FuncId} (hcall : Callable P g) (hc : ∀ (s : ByteArray) (c : Int) (w : World), Calls P g #[.string s, .int .u8 c] w fun e w' => e = .returned (.int .i64 (Lib.indexByte s.data.toList c.toNat.toUInt8)) ∧ w' = w) : SoundA P g idxBP := by
  intro tr args h ft v h' ft' vals hdr S w ok e hr hm hv hi hO
  refine ⟨hcall, ?_⟩
  unfold idxBP at e
  split at e
  case h_2 => exact (ex_fail e).elim
  rename_i s c
  cases ex_ret e
  cases hv with | cons _ _ _ _ ha hv =>
  cases hv with | cons _ _ _ _ hb hv =>
  cases hv
  cases ha
  cases hb
  refine (hc s c w).mono ?_
  rintro en w' ⟨rfl, rfl⟩
  exact ⟨_, hdr, S, rfl, Post.refl hr hm, .int _ _, fun n hn => by cases hn⟩
end
end Go.Proofs.YtmjbedjnojcmfaaGreatDoor.Ex

namespace Go.Proofs.YtmjbedjnojcmfaaGreatDoor.Ex
open Go.Proofs Go.Proofs.YtmjbedjnojcmfaaGreatDoor
set_option maxRecDepth 100000
theorem call_Tryz119 : Callable Tryz.prog 119 := by
  have hbody : ∃ c, Tryz.f119.body = some c := ⟨_, rfl⟩
  obtain ⟨c0, hb0⟩ := hbody
  exact fun args w => MuLone.run_callFunc_enter Tryz.func119 (by kernel_rfl) hb0 args w
theorem call_Tryz118 : Callable Tryz.prog 118 := by
  have hbody : ∃ c, Tryz.f118.body = some c := ⟨_, rfl⟩
  obtain ⟨c0, hb0⟩ := hbody
  exact fun args w => MuLone.run_callFunc_enter Tryz.func118 (by kernel_rfl) hb0 args w
noncomputable def con_Trim : List AV → Prog AV := trimP
theorem snd_Trim : SoundA Tryz.prog 119 con_Trim := trim_sound call_Tryz119 fun s c w h1 h2 h3 => strings_Trim_H s c w h1 h2 h3
noncomputable def con_IndexByte : List AV → Prog AV := idxBP
theorem snd_IndexByte : SoundA Tryz.prog 118 con_IndexByte := idxB_sound call_Tryz118 fun s c w => strings_IndexByte_H s c w
end Go.Proofs.YtmjbedjnojcmfaaGreatDoor.Ex

namespace Go.Proofs.YtmjbedjnojcmfaaGreatDoor.Ex
open Go.Proofs Go.Proofs.YtmjbedjnojcmfaaGreatDoor
set_option maxRecDepth 100000
set_option maxHeartbeats 2000000
set_option linter.unusedVariables false
set_option linter.unusedSimpArgs false
def ash_check_isName : List Sh := [.dat .str]
noncomputable def sp_check_isName : List Con := [⟨118, con_IndexByte, snd_IndexByte⟩, ⟨119, con_Trim, snd_Trim⟩]
noncomputable def g_check_isName (a0 : ByteArray) : Option Bool :=
  bif !a0.toList == (ByteArray.mk #[]).toList then
 bif decide ((↑a0.size : Int) ≤ 8) then
 optC a0[Int.toNat (0 : Int)]? none fun d2 ↦
 bif
 decide
 (Go.Lib.indexByte (ByteArray.mk #[97, 98, 99, 100, 101, 102, 103, 104, 105, 106, 107, 108, 109, 110, 111, 112, 113, 114, 115, 116, 117, 118, 119, 120, 121, 122]).data.toList
 (↑d2.toNat : Int).toNat.toUInt8 ≥
 0) then
 bif decide (a0.size ≤ 9223372036854775807) then
 some
 ((trimV a0
 (ByteArray.mk
 #[97, 98, 99, 100, 101, 102, 103, 104, 105, 106, 107, 108, 109, 110, 111, 112, 113, 114, 115, 116, 117, 118, 119, 120, 121, 122, 48, 49, 50, 51, 52, 53, 54, 55, 56, 57])).toList ==
 (ByteArray.mk #[]).toList)
 else none
 else some false
 else some false
 else some false
theorem raw_check_isName (a0 : ByteArray) : evGX (cxU sp_check_isName [] 40 1048576) keeps 8 81 ash_check_isName (.dat .bool) ((a0, ()) : (ByteArray × Unit)) = g_check_isName a0 := by kernel_rfl
noncomputable def G_check_isName (x : (ByteArray × Unit)) : Option Bool := g_check_isName x.1
noncomputable def con_check_isName : List AV → Prog AV := conP false ash_check_isName (.dat .bool) G_check_isName
theorem snd_check_isName : SoundA Tryz.prog 81 con_check_isName := conP_sound (calU sp_check_isName [] 40 1048576 8 81) false (by rfl) (by rfl) (fun x r e => (evGX_eq _ _ _ _ _ _ _).trans ((raw_check_isName x.1).trans e)) (.inr fun _ => rfl)
end Go.Proofs.YtmjbedjnojcmfaaGreatDoor.Ex

namespace Go.Proofs.YtmjbedjnojcmfaaGreatDoor.Ex
open Go.Proofs Go.Proofs.YtmjbedjnojcmfaaGreatDoor
set_option maxRecDepth 100000
set_option maxHeartbeats 2000000
set_option linter.unusedVariables false
set_option linter.unusedSimpArgs false
def ash_check_areNames : List Sh := [.dat (.sl .str)]
def kp_check_areNames_153_0 : Nat → List Nat := fun c => bif c.beq 0 then [0, 1, 7, 8] else [4]
noncomputable def sp_check_areNames : List Con := [⟨81, con_check_isName, snd_check_isName⟩]
def s_check_areNames_153_0_0 : StS := ⟨[(0, .sl .str), (1, .clo 115 [] []), (7, .int .i64), (8, .int .i64)], [], 0⟩
def x_check_areNames_153_0_0_0 : StS := ⟨[(4, .undef)], [], 0⟩
def x_check_areNames_153_0_0_1 : StS := ⟨[(4, .int .i64)], [], 0⟩
abbrev X_check_areNames_153_0_0 := ((List ByteArray) × Int × Int)
def fl_check_areNames_153_0_0 (d : StD s_check_areNames_153_0_0) : X_check_areNames_153_0_0 := (d.1.1, d.1.2.2.1, d.1.2.2.2.1)
def un_check_areNames_153_0_0 (x : X_check_areNames_153_0_0) : StD s_check_areNames_153_0_0 := ((x.1, ((), ()), x.2.1, x.2.2, ()), ())
abbrev X_check_areNames_153_0_0_0 := Unit
def fl_check_areNames_153_0_0_0 (d : StD x_check_areNames_153_0_0_0) : X_check_areNames_153_0_0_0 := ()
def un_check_areNames_153_0_0_0 (x : X_check_areNames_153_0_0_0) : StD x_check_areNames_153_0_0_0 := (((), ()), ())
abbrev X_check_areNames_153_0_0_1 := Int
def fl_check_areNames_153_0_0_1 (d : StD x_check_areNames_153_0_0_1) : X_check_areNames_153_0_0_1 := (d.1.1)
def un_check_areNames_153_0_0_1 (x : X_check_areNames_153_0_0_1) : StD x_check_areNames_153_0_0_1 := ((x, ()), ())
noncomputable def st_check_areNames_153_0_0 (s0 : (List ByteArray)) (s7 : Int) (s8 : Int) : Option (((List ByteArray) × Int × Int) ⊕ (Unit ⊕ Int)) :=
  bif decide (s8 < s7) then
 bif decide (0 ≤ s8) then
 optC s0[s8.toNat]? none fun d5 ↦
 optC (G_check_isName (d5, ())) none fun d6 ↦ bif !d6 then some (Sum.inr (Sum.inr s8)) else some (Sum.inl (s0, s7, Go.IntKind.i64.wrap (s8 + 1)))
 else none
 else some (Sum.inr (Sum.inl PUnit.unit))
noncomputable def sx_check_areNames_153_0_0 (x : X_check_areNames_153_0_0) : Option (X_check_areNames_153_0_0 ⊕ (X_check_areNames_153_0_0_0 ⊕ X_check_areNames_153_0_0_1)) := st_check_areNames_153_0_0 x.1 x.2.1 x.2.2
theorem rn_check_areNames_153_0_0 (x : X_check_areNames_153_0_0) : rdX (cxU sp_check_areNames [] 40 1048576) keeps 8 ⟨153, 19, keeps 153, 0⟩ 0 (bodyX 153 0) 0 kp_check_areNames_153_0 (sT s_check_areNames_153_0_0 (un_check_areNames_153_0_0 x)) (sH s_check_areNames_153_0_0 (un_check_areNames_153_0_0 x)) (rdO (fun T h => (rdS s_check_areNames_153_0_0 T h).map fl_check_areNames_153_0_0) (getOr (getE 2 x_check_areNames_153_0_0_0 fl_check_areNames_153_0_0_0) (getE 1 x_check_areNames_153_0_0_1 fl_check_areNames_153_0_0_1))) = sx_check_areNames_153_0_0 x := by kernel_rfl
noncomputable def L_check_areNames_153_0_0 (x : X_check_areNames_153_0_0) : Option (X_check_areNames_153_0_0_0 ⊕ X_check_areNames_153_0_0_1) := iterO (fun x => st_check_areNames_153_0_0 x.1 x.2.1 x.2.2) FUEL x
noncomputable def q_check_areNames_153_0 : Nat → Tm → Prog (Nat × Tm) := (varP 0 (fun T h => (rdS s_check_areNames_153_0_0 T h).map fl_check_areNames_153_0_0) L_check_areNames_153_0_0 (fun y => .alt y (altE 2 x_check_areNames_153_0_0_0 un_check_areNames_153_0_0_0) (altE 1 x_check_areNames_153_0_0_1 un_check_areNames_153_0_0_1)) (fun _ _ => .fail))
noncomputable def lc_check_areNames_153_0 : Lpc := ⟨153, 0, 19, (fun base T => .norm base (kp_check_areNames_153_0 0) T (q_check_areNames_153_0 base)), by kernel_rfl, by kernel_rfl, (loopU sp_check_areNames [] 40 1048576 8 (keep := kp_check_areNames_153_0) (q := q_check_areNames_153_0) (by kernel_rfl) (varX_ok (s := s_check_areNames_153_0_0) (un := un_check_areNames_153_0_0) (by rfl) (fun _ => rfl) (getOr_ok (getE_ok (s := x_check_areNames_153_0_0_0) (un := un_check_areNames_153_0_0_0) (by rfl) (fun _ => rfl)) (getE_ok (s := x_check_areNames_153_0_0_1) (un := un_check_areNames_153_0_0_1) (by rfl) (fun _ => rfl))) (step := sx_check_areNames_153_0_0) rn_check_areNames_153_0_0 (fun _ _ e => ⟨_, e⟩) (altOr_ok (altE_ok 2 x_check_areNames_153_0_0_0 un_check_areNames_153_0_0_0) (altE_ok 1 x_check_areNames_153_0_0_1 un_check_areNames_153_0_0_1)) (VarOk.fail _ _)))⟩
noncomputable def g_check_areNames (a0 : (List ByteArray)) : Option Bool :=
  optC (L_check_areNames_153_0_0 (a0, (↑a0.length : Int), 0)) none fun d3 ↦ Sum.elim (fun e4 ↦ some !decide (-1 ≥ 0)) (fun e4 ↦ some !decide (e4 ≥ 0)) d3
theorem raw_check_areNames (a0 : (List ByteArray)) : evGX (cxU sp_check_areNames [lc_check_areNames_153_0] 40 1048576) keeps 8 78 ash_check_areNames (.dat .bool) ((a0, ()) : ((List ByteArray) × Unit)) = g_check_areNames a0 := by kernel_rfl
noncomputable def G_check_areNames (x : ((List ByteArray) × Unit)) : Option Bool := g_check_areNames x.1
noncomputable def con_check_areNames : List AV → Prog AV := conP false ash_check_areNames (.dat .bool) G_check_areNames
theorem snd_check_areNames : SoundA Tryz.prog 78 con_check_areNames := conP_sound (calU sp_check_areNames [lc_check_areNames_153_0] 40 1048576 8 78) false (by rfl) (by rfl) (fun x r e => (evGX_eq _ _ _ _ _ _ _).trans ((raw_check_areNames x.1).trans e)) (.inr fun _ => rfl)
end Go.Proofs.YtmjbedjnojcmfaaGreatDoor.Ex

namespace Go.Proofs.YtmjbedjnojcmfaaGreatDoor.Ex
set_option linter.unusedVariables false
set_option linter.unusedSectionVars false
section
variable [RT] {P : Program} {g : FuncId} {dl : Bool} {sh : List Sh} {rs : Sh}
theorem conP_bind (G : ShDs sh → Option (ShD rs)) (args : List AV) : conP dl sh rs G args = (frzL dl args .ret).bind fun args' => .opt (rds sh args') fun x => .opt (G x) fun r => .ret (mk rs r) := by
  rw [frzL_bind]; rfl
theorem conP_none : SoundA P g (conP dl sh rs fun _ => none) := by
  intro tr args h ft v h' ft' vals hdr S w ok e hr hm hv hi hO
  rw [conP_bind] at e
  obtain ⟨a, h1, f1, e1, e2⟩ := ex_bind_some e
  obtain ⟨x, hx, e3⟩ := ex_opt e2
  obtain ⟨r, hr, _⟩ := ex_opt e3
  cases hr
theorem conP_pick {n : ShDs sh → Nat} {F : Nat → ShDs sh → Option (ShD rs)} (hF : ∀ k, SoundA P g (conP dl sh rs (F k))) : SoundA P g (conP dl sh rs fun x => F (n x) x) := by
  intro tr args h ft v h' ft' vals hdr S w ok e hr hm hv hi hO
  rw [conP_bind] at e
  obtain ⟨a, h1, f1, e1, e2⟩ := ex_bind_some e
  obtain ⟨x, hx, e3⟩ := ex_opt e2
  obtain ⟨r, hr', e4⟩ := ex_opt e3
  refine hF (n x) tr args h ft v h' ft' vals hdr S w ok ?_ hr hm hv hi hO
  rw [conP_bind, ex_bind, e1]
  show ex (Prog.opt (rds sh a) _) tr h1 f1 = _
  unfold ex at e4 ⊢
  simp only [run, hx, Option.bind_some, hr']
  simpa only [run] using e4
def evF1 (cx : Ctx) (keeps : FuncId → List Nat) (n : Nat) (f : FuncId) (args : List AV) : Prog AV := match cx.inl f with
  | none => .fail
  | some fn => evB (cx.at n) (evF cx keeps n) (keeps f) f fn args
theorem evF1_sound {cx : Ctx} (hcx : TabOk P cx.tab) (hcmp : CmpsOk P cx.tab) (hmd : P.follows .mixedOrders = true) (hin : InlOk P cx) (hsp : ∀ g p, cx.spec g = some p → SoundA P g p) (keeps : FuncId → List Nat) (n : Nat) (g : FuncId) : SoundA P g (evF1 cx keeps n g) := by
  cases hi : cx.inl g with
  | none => have : evF1 cx keeps n g = fun _ => .fail := funext fun _ => by simp only [evF1, hi]
            rw [this]; exact soundA_fail g
  | some fn => have : evF1 cx keeps n g = evB (cx.at n) (evF cx keeps n) (keeps g) g fn := funext fun _ => by simp only [evF1, hi]
               rw [this]; exact evB_sound (cx := cx.at n) hcx hcmp (evF_sound hcx hcmp hmd hin hsp keeps n) hmd ⟨hin.fn, hin.lps⟩ hi _
noncomputable def evFX1 {R : Type} (cx : Ctx) (keeps : FuncId → List Nat) (n : Nat) (g : FuncId) (args : List AV) : RunX R AV :=
  @Option.rec Func (fun _ => RunX R AV) (fun _ _ _ _ => none) (fun fn => evBX (cx.at n) (evFX cx keeps n) (keeps g) g fn args) (cx.inl g)
theorem evFX1_same {R : Type} (cx : Ctx) (keeps : FuncId → List Nat) (n : Nat) (g : FuncId) (a : List AV) : Same (R := R) (evFX1 cx keeps n g a) (evF1 cx keeps n g a) := by
  simp only [evFX1, evF1]
  cases cx.inl g with
  | none => exact Same.no
  | some fn => exact evBX_same (cx.at n) (evFX_same cx keeps n) (keeps g) g fn a
noncomputable def evGX1 (cx : Ctx) (keeps : FuncId → List Nat) (n : Nat) (g : FuncId) (sh : List Sh) (rs : Sh) (x : ShDs sh) : Option (ShD rs) :=
  evFX1 cx keeps n g (mks sh x) false ⟨[], 0⟩ ⟨[], []⟩ fun v h f => runX (outP rs v) false h f fun d _ _ => some d
theorem evGX1_eq (cx : Ctx) (keeps : FuncId → List Nat) (n : Nat) (g : FuncId) (sh : List Sh) (rs : Sh) (x : ShDs sh) : evG (evF1 cx keeps n g) sh rs x = evGX1 cx keeps n g sh rs x := by
  unfold evG evGX1
  rw [run_bind, evFX1_same]
  simp only [runX_eq]
end
end Go.Proofs.YtmjbedjnojcmfaaGreatDoor.Ex

namespace Go.Proofs.YtmjbedjnojcmfaaGreatDoor.Ex
open Go.Proofs Go.Proofs.YtmjbedjnojcmfaaGreatDoor
set_option maxRecDepth 100000
set_option maxHeartbeats 2000000
set_option linter.unusedVariables false
set_option linter.unusedSimpArgs false
def ash_check_isIn : List Sh := [.dat (.int .i64), .dat (.int .i64), .dat (.int .i64)]
noncomputable def sp_check_isIn : List Con := []
noncomputable def g_check_isIn (a0 : Int) (a1 : Int) (a2 : Int) : Option Bool :=
  bif decide (a0 ≥ a1) then some (decide (a0 ≤ a2)) else some false
theorem raw_check_isIn (a0 : Int) (a1 : Int) (a2 : Int) : evGX (cxU sp_check_isIn [] 40 1048576) keeps 8 84 ash_check_isIn (.dat .bool) ((a0, a1, a2, ()) : (Int × (Int × (Int × Unit)))) = g_check_isIn a0 a1 a2 := by kernel_rfl
noncomputable def G_check_isIn (x : (Int × (Int × (Int × Unit)))) : Option Bool := g_check_isIn x.1 x.2.1 x.2.2.1
noncomputable def con_check_isIn : List AV → Prog AV := conP true ash_check_isIn (.dat .bool) G_check_isIn
theorem snd_check_isIn : SoundA Tryz.prog 84 con_check_isIn := conP_sound (calU sp_check_isIn [] 40 1048576 8 84) true (by rfl) (by rfl) (fun x r e => (evGX_eq _ _ _ _ _ _ _).trans ((raw_check_isIn x.1 x.2.1 x.2.2.1).trans e)) (.inl rfl)
end Go.Proofs.YtmjbedjnojcmfaaGreatDoor.Ex

namespace Go.Proofs.YtmjbedjnojcmfaaGreatDoor.Ex
open Go.Proofs Go.Proofs.YtmjbedjnojcmfaaGreatDoor
set_option maxRecDepth 100000
set_option maxHeartbeats 2000000
set_option linter.unusedVariables false
set_option linter.unusedSimpArgs false
def ash_check_isExpr : List Sh := [.dat tX]
def kp_check_isExpr_185_0 : Nat → List Nat := fun c => bif c.beq 0 then [0, 1, 7, 8] else [4]
class Rec_check_isExpr where
  K : (Xp × Unit) → Option Bool
  s : SoundA Tryz.prog 122 (conP true ash_check_isExpr (.dat .bool) K)
section
variable [Rec_check_isExpr]
noncomputable def sp_check_isExpr : List Con := [⟨84, con_check_isIn, snd_check_isIn⟩, ⟨81, con_check_isName, snd_check_isName⟩, ⟨122, (conP true ash_check_isExpr (.dat .bool) Rec_check_isExpr.K), Rec_check_isExpr.s⟩]
def s_check_isExpr_185_0_0 : StS := ⟨[(0, .sl (.mu 0)), (1, .clo 163 [] [.ptr 1 0]), (7, .int .i64), (8, .int .i64)], [(1, .box [.clo 122 [] []]), (0, .box [.int .i64, .int .i64, .int .i64, .str, .sl (.mu 0)])], 2⟩
def x_check_isExpr_185_0_0_0 : StS := ⟨[(4, .undef)], [(1, .box [.clo 122 [] []]), (0, .box [.int .i64, .int .i64, .int .i64, .str, .sl (.mu 0)])], 2⟩
def x_check_isExpr_185_0_0_1 : StS := ⟨[(4, .int .i64)], [(1, .box [.clo 122 [] []]), (0, .box [.int .i64, .int .i64, .int .i64, .str, .sl (.mu 0)])], 2⟩
abbrev X_check_isExpr_185_0_0 := ((List (RT.C 0)) × Int × Int × Int × Int × Int × ByteArray × (List (RT.C 0)))
def fl_check_isExpr_185_0_0 (d : StD s_check_isExpr_185_0_0) : X_check_isExpr_185_0_0 := (d.1.1, d.1.2.2.1, d.1.2.2.2.1, d.2.2.1.1, d.2.2.1.2.1, d.2.2.1.2.2.1, d.2.2.1.2.2.2.1, d.2.2.1.2.2.2.2.1)
def un_check_isExpr_185_0_0 (x : X_check_isExpr_185_0_0) : StD s_check_isExpr_185_0_0 := ((x.1, ((), ((), ())), x.2.1, x.2.2.1, ()), ((((), ()), ()), (x.2.2.2.1, x.2.2.2.2.1, x.2.2.2.2.2.1, x.2.2.2.2.2.2.1, x.2.2.2.2.2.2.2, ()), ()))
abbrev X_check_isExpr_185_0_0_0 := (Int × Int × Int × ByteArray × (List (RT.C 0)))
def fl_check_isExpr_185_0_0_0 (d : StD x_check_isExpr_185_0_0_0) : X_check_isExpr_185_0_0_0 := (d.2.2.1.1, d.2.2.1.2.1, d.2.2.1.2.2.1, d.2.2.1.2.2.2.1, d.2.2.1.2.2.2.2.1)
def un_check_isExpr_185_0_0_0 (x : X_check_isExpr_185_0_0_0) : StD x_check_isExpr_185_0_0_0 := (((), ()), ((((), ()), ()), (x.1, x.2.1, x.2.2.1, x.2.2.2.1, x.2.2.2.2, ()), ()))
abbrev X_check_isExpr_185_0_0_1 := (Int × Int × Int × Int × ByteArray × (List (RT.C 0)))
def fl_check_isExpr_185_0_0_1 (d : StD x_check_isExpr_185_0_0_1) : X_check_isExpr_185_0_0_1 := (d.1.1, d.2.2.1.1, d.2.2.1.2.1, d.2.2.1.2.2.1, d.2.2.1.2.2.2.1, d.2.2.1.2.2.2.2.1)
def un_check_isExpr_185_0_0_1 (x : X_check_isExpr_185_0_0_1) : StD x_check_isExpr_185_0_0_1 := ((x.1, ()), ((((), ()), ()), (x.2.1, x.2.2.1, x.2.2.2.1, x.2.2.2.2.1, x.2.2.2.2.2, ()), ()))
noncomputable def st_check_isExpr_185_0_0 (s0 : (List (RT.C 0))) (s7 : Int) (s8 : Int) (b0 : Int) (b0_1 : Int) (b0_2 : Int) (b0_3 : ByteArray) (b0_4 : (List (RT.C 0))) : Option (((List (RT.C 0)) × Int × Int × Int × Int × Int × ByteArray × (List (RT.C 0))) ⊕ ((Int × Int × Int × ByteArray × (List (RT.C 0))) ⊕ (Int × Int × Int × Int × ByteArray × (List (RT.C 0))))) :=
  bif decide (s8 < s7) then
 bif decide (0 ≤ s8) then
 optC s0[s8.toNat]? none fun d11 ↦
 optC (Rec_check_isExpr.K (uT0 d11, ())) none fun d12 ↦
 bif !d12 then some (Sum.inr (Sum.inr (s8, b0, b0_1, b0_2, b0_3, b0_4))) else some (Sum.inl (s0, s7, Go.IntKind.i64.wrap (s8 + 1), b0, b0_1, b0_2, b0_3, b0_4))
 else none
 else some (Sum.inr (Sum.inl (b0, b0_1, b0_2, b0_3, b0_4)))
noncomputable def sx_check_isExpr_185_0_0 (x : X_check_isExpr_185_0_0) : Option (X_check_isExpr_185_0_0 ⊕ (X_check_isExpr_185_0_0_0 ⊕ X_check_isExpr_185_0_0_1)) := st_check_isExpr_185_0_0 x.1 x.2.1 x.2.2.1 x.2.2.2.1 x.2.2.2.2.1 x.2.2.2.2.2.1 x.2.2.2.2.2.2.1 x.2.2.2.2.2.2.2
theorem rn_check_isExpr_185_0_0 (x : X_check_isExpr_185_0_0) : rdX (cxU sp_check_isExpr [] 40 (1048576 ^ 9)) keeps 8 ⟨185, 19, keeps 185, 2⟩ 0 (bodyX 185 0) 2 kp_check_isExpr_185_0 (sT s_check_isExpr_185_0_0 (un_check_isExpr_185_0_0 x)) (sH s_check_isExpr_185_0_0 (un_check_isExpr_185_0_0 x)) (rdO (fun T h => (rdS s_check_isExpr_185_0_0 T h).map fl_check_isExpr_185_0_0) (getOr (getE 2 x_check_isExpr_185_0_0_0 fl_check_isExpr_185_0_0_0) (getE 1 x_check_isExpr_185_0_0_1 fl_check_isExpr_185_0_0_1))) = sx_check_isExpr_185_0_0 x := by kernel_rfl
noncomputable def L_check_isExpr_185_0_0 (x : X_check_isExpr_185_0_0) : Option (X_check_isExpr_185_0_0_0 ⊕ X_check_isExpr_185_0_0_1) := iterO (fun x => st_check_isExpr_185_0_0 x.1 x.2.1 x.2.2.1 x.2.2.2.1 x.2.2.2.2.1 x.2.2.2.2.2.1 x.2.2.2.2.2.2.1 x.2.2.2.2.2.2.2) FUEL x
noncomputable def q_check_isExpr_185_0 : Nat → Tm → Prog (Nat × Tm) := (varP 2 (fun T h => (rdS s_check_isExpr_185_0_0 T h).map fl_check_isExpr_185_0_0) L_check_isExpr_185_0_0 (fun y => .alt y (altE 2 x_check_isExpr_185_0_0_0 un_check_isExpr_185_0_0_0) (altE 1 x_check_isExpr_185_0_0_1 un_check_isExpr_185_0_0_1)) (fun _ _ => .fail))
noncomputable def lc_check_isExpr_185_0 : Lpc := ⟨185, 0, 19, (fun base T => .norm base (kp_check_isExpr_185_0 0) T (q_check_isExpr_185_0 base)), by kernel_rfl, by kernel_rfl, (loopU sp_check_isExpr [] 40 (1048576 ^ 9) 8 (keep := kp_check_isExpr_185_0) (q := q_check_isExpr_185_0) (by kernel_rfl) (varX_ok (s := s_check_isExpr_185_0_0) (un := un_check_isExpr_185_0_0) (by rfl) (fun _ => rfl) (getOr_ok (getE_ok (s := x_check_isExpr_185_0_0_0) (un := un_check_isExpr_185_0_0_0) (by rfl) (fun _ => rfl)) (getE_ok (s := x_check_isExpr_185_0_0_1) (un := un_check_isExpr_185_0_0_1) (by rfl) (fun _ => rfl))) (step := sx_check_isExpr_185_0_0) rn_check_isExpr_185_0_0 (fun _ _ e => ⟨_, e⟩) (altOr_ok (altE_ok 2 x_check_isExpr_185_0_0_0 un_check_isExpr_185_0_0_0) (altE_ok 1 x_check_isExpr_185_0_0_1 un_check_isExpr_185_0_0_1)) (VarOk.fail _ _)))⟩
noncomputable def g_check_isExpr (a0 : Xp) : Option Bool :=
  bif a0.1 == 1 then
 optC (G_check_isIn (a0.2.1, 0, 2147483647, ())) none fun d4 ↦
 bif d4 then
 bif (↑(List.length a0.2.2.2.2) : Int) == 0 then
 optC (L_check_isExpr_185_0_0 (a0.2.2.2.2, (↑(List.length a0.2.2.2.2) : Int), 0, a0)) none fun d5 ↦
 Sum.elim (fun e6 ↦ some !decide (-1 ≥ 0)) (fun e6 ↦ some !decide (e6.1 ≥ 0)) d5
 else some false
 else some false
 else
 bif a0.1 == 4 then
 bif (↑(List.length a0.2.2.2.2) : Int) == 0 then
 optC (L_check_isExpr_185_0_0 (a0.2.2.2.2, (↑(List.length a0.2.2.2.2) : Int), 0, a0)) none fun d4 ↦
 Sum.elim (fun e5 ↦ some !decide (-1 ≥ 0)) (fun e5 ↦ some !decide (e5.1 ≥ 0)) d4
 else some false
 else
 bif a0.1 == 2 then
 optC (G_check_isName (a0.2.2.2.1, ())) none fun d4 ↦
 bif d4 then
 bif (↑(List.length a0.2.2.2.2) : Int) == 0 then
 optC (L_check_isExpr_185_0_0 (a0.2.2.2.2, (↑(List.length a0.2.2.2.2) : Int), 0, a0)) none fun d5 ↦
 Sum.elim (fun e6 ↦ some !decide (-1 ≥ 0)) (fun e6 ↦ some !decide (e6.1 ≥ 0)) d5
 else some false
 else some false
 else
 bif a0.1 == 3 then
 optC (G_check_isName (a0.2.2.2.1, ())) none fun d4 ↦
 bif d4 then
 bif (↑(List.length a0.2.2.2.2) : Int) == 1 then
 optC (L_check_isExpr_185_0_0 (a0.2.2.2.2, (↑(List.length a0.2.2.2.2) : Int), 0, a0)) none fun d5 ↦
 Sum.elim (fun e6 ↦ some !decide (-1 ≥ 0)) (fun e6 ↦ some !decide (e6.1 ≥ 0)) d5
 else some false
 else some false
 else
 bif a0.1 == 6 then
 bif (↑(List.length a0.2.2.2.2) : Int) == 1 then
 optC (L_check_isExpr_185_0_0 (a0.2.2.2.2, (↑(List.length a0.2.2.2.2) : Int), 0, a0)) none fun d4 ↦
 Sum.elim (fun e5 ↦ some !decide (-1 ≥ 0)) (fun e5 ↦ some !decide (e5.1 ≥ 0)) d4
 else some false
 else
 bif a0.1 == 5 then
 optC (G_check_isIn (a0.2.2.1, 1, 5, ())) none fun d4 ↦
 bif d4 then
 bif (↑(List.length a0.2.2.2.2) : Int) == 2 then
 optC (L_check_isExpr_185_0_0 (a0.2.2.2.2, (↑(List.length a0.2.2.2.2) : Int), 0, a0)) none fun d5 ↦
 Sum.elim (fun e6 ↦ some !decide (-1 ≥ 0)) (fun e6 ↦ some !decide (e6.1 ≥ 0)) d5
 else some false
 else some false
 else some false
theorem raw_check_isExpr (a0 : Xp) : evGX1 (cxU sp_check_isExpr [lc_check_isExpr_185_0] 40 (1048576 ^ 9)) keeps 8 122 ash_check_isExpr (.dat .bool) ((a0, ()) : (Xp × Unit)) = g_check_isExpr a0 := by kernel_rfl
noncomputable def GI_check_isExpr (x : (Xp × Unit)) : Option Bool := g_check_isExpr x.1
noncomputable def conI_check_isExpr : List AV → Prog AV := conP true ash_check_isExpr (.dat .bool) GI_check_isExpr
theorem sndI_check_isExpr : SoundA Tryz.prog 122 conI_check_isExpr := conP_sound (evF1_sound (tabOk_of tab_ok) (cmpsOk_of tab_ok cmps_ok) mixed (inU sp_check_isExpr [lc_check_isExpr_185_0] 40 (1048576 ^ 9)) (hspL sp_check_isExpr) keeps 8 122) true (by rfl) (by rfl) (fun x r e => (evGX1_eq _ _ _ _ _ _ _).trans ((raw_check_isExpr x.1).trans e)) (.inl rfl)
end
noncomputable def it_check_isExpr : Nat → {K : (Xp × Unit) → Option Bool // SoundA Tryz.prog 122 (conP true ash_check_isExpr (.dat .bool) K)}
  | 0 => ⟨fun _ => none, conP_none⟩
  | k + 1 => letI : Rec_check_isExpr := ⟨(it_check_isExpr k).1, (it_check_isExpr k).2⟩; ⟨GI_check_isExpr, sndI_check_isExpr⟩
noncomputable def G_check_isExpr (x : (Xp × Unit)) : Option Bool := (it_check_isExpr (SizeOf.sizeOf x + 1)).1 x
noncomputable def con_check_isExpr : List AV → Prog AV := conP true ash_check_isExpr (.dat .bool) G_check_isExpr
theorem snd_check_isExpr : SoundA Tryz.prog 122 con_check_isExpr := conP_pick (sh := ash_check_isExpr) (rs := .dat .bool) (n := fun x : (Xp × Unit) => SizeOf.sizeOf x + 1) (F := fun k => (it_check_isExpr k).1) (fun k => (it_check_isExpr k).2)
end Go.Proofs.YtmjbedjnojcmfaaGreatDoor.Ex

namespace Go.Proofs.YtmjbedjnojcmfaaGreatDoor.Ex
open Go.Proofs Go.Proofs.YtmjbedjnojcmfaaGreatDoor
set_option maxRecDepth 100000
set_option maxHeartbeats 2000000
set_option linter.unusedVariables false
set_option linter.unusedSimpArgs false
def ash_check_isCond : List Sh := [.dat tCd]
def kp_check_isCond_185_0 : Nat → List Nat := fun c => bif c.beq 0 then [0, 1, 7, 8] else [4]
def kp_check_isCond_186_0 : Nat → List Nat := fun c => bif c.beq 0 then [0, 1, 7, 8] else [4]
class Rec_check_isCond where
  K : (Cd × Unit) → Option Bool
  s : SoundA Tryz.prog 123 (conP true ash_check_isCond (.dat .bool) K)
section
variable [Rec_check_isCond]
noncomputable def sp_check_isCond : List Con := [⟨84, con_check_isIn, snd_check_isIn⟩, ⟨122, con_check_isExpr, snd_check_isExpr⟩, ⟨123, (conP true ash_check_isCond (.dat .bool) Rec_check_isCond.K), Rec_check_isCond.s⟩]
def s_check_isCond_185_0_0 : StS := ⟨[(0, .sl (.mu 0)), (1, .clo 163 [] [.ptr 1 0]), (7, .int .i64), (8, .int .i64)], [(1, .box [.clo 122 [] []]), (0, .box [.int .i64, .int .i64, .sl (.mu 0), .sl (.mu 1)])], 2⟩
def x_check_isCond_185_0_0_0 : StS := ⟨[(4, .undef)], [(1, .box [.clo 122 [] []]), (0, .box [.int .i64, .int .i64, .sl (.mu 0), .sl (.mu 1)])], 2⟩
def x_check_isCond_185_0_0_1 : StS := ⟨[(4, .int .i64)], [(1, .box [.clo 122 [] []]), (0, .box [.int .i64, .int .i64, .sl (.mu 0), .sl (.mu 1)])], 2⟩
abbrev X_check_isCond_185_0_0 := ((List (RT.C 0)) × Int × Int × Int × Int × (List (RT.C 0)) × (List (RT.C 1)))
def fl_check_isCond_185_0_0 (d : StD s_check_isCond_185_0_0) : X_check_isCond_185_0_0 := (d.1.1, d.1.2.2.1, d.1.2.2.2.1, d.2.2.1.1, d.2.2.1.2.1, d.2.2.1.2.2.1, d.2.2.1.2.2.2.1)
def un_check_isCond_185_0_0 (x : X_check_isCond_185_0_0) : StD s_check_isCond_185_0_0 := ((x.1, ((), ((), ())), x.2.1, x.2.2.1, ()), ((((), ()), ()), (x.2.2.2.1, x.2.2.2.2.1, x.2.2.2.2.2.1, x.2.2.2.2.2.2, ()), ()))
abbrev X_check_isCond_185_0_0_0 := (Int × Int × (List (RT.C 0)) × (List (RT.C 1)))
def fl_check_isCond_185_0_0_0 (d : StD x_check_isCond_185_0_0_0) : X_check_isCond_185_0_0_0 := (d.2.2.1.1, d.2.2.1.2.1, d.2.2.1.2.2.1, d.2.2.1.2.2.2.1)
def un_check_isCond_185_0_0_0 (x : X_check_isCond_185_0_0_0) : StD x_check_isCond_185_0_0_0 := (((), ()), ((((), ()), ()), (x.1, x.2.1, x.2.2.1, x.2.2.2, ()), ()))
abbrev X_check_isCond_185_0_0_1 := (Int × Int × Int × (List (RT.C 0)) × (List (RT.C 1)))
def fl_check_isCond_185_0_0_1 (d : StD x_check_isCond_185_0_0_1) : X_check_isCond_185_0_0_1 := (d.1.1, d.2.2.1.1, d.2.2.1.2.1, d.2.2.1.2.2.1, d.2.2.1.2.2.2.1)
def un_check_isCond_185_0_0_1 (x : X_check_isCond_185_0_0_1) : StD x_check_isCond_185_0_0_1 := ((x.1, ()), ((((), ()), ()), (x.2.1, x.2.2.1, x.2.2.2.1, x.2.2.2.2, ()), ()))
noncomputable def st_check_isCond_185_0_0 (s0 : (List (RT.C 0))) (s7 : Int) (s8 : Int) (b0 : Int) (b0_1 : Int) (b0_2 : (List (RT.C 0))) (b0_3 : (List (RT.C 1))) : Option (((List (RT.C 0)) × Int × Int × Int × Int × (List (RT.C 0)) × (List (RT.C 1))) ⊕ ((Int × Int × (List (RT.C 0)) × (List (RT.C 1))) ⊕ (Int × Int × Int × (List (RT.C 0)) × (List (RT.C 1))))) :=
  bif decide (s8 < s7) then
 bif decide (0 ≤ s8) then
 optC s0[s8.toNat]? none fun d11 ↦
 optC (G_check_isExpr (uT0 d11, ())) none fun d12 ↦
 bif !d12 then some (Sum.inr (Sum.inr (s8, b0, b0_1, b0_2, b0_3))) else some (Sum.inl (s0, s7, Go.IntKind.i64.wrap (s8 + 1), b0, b0_1, b0_2, b0_3))
 else none
 else some (Sum.inr (Sum.inl (b0, b0_1, b0_2, b0_3)))
noncomputable def sx_check_isCond_185_0_0 (x : X_check_isCond_185_0_0) : Option (X_check_isCond_185_0_0 ⊕ (X_check_isCond_185_0_0_0 ⊕ X_check_isCond_185_0_0_1)) := st_check_isCond_185_0_0 x.1 x.2.1 x.2.2.1 x.2.2.2.1 x.2.2.2.2.1 x.2.2.2.2.2.1 x.2.2.2.2.2.2
theorem rn_check_isCond_185_0_0 (x : X_check_isCond_185_0_0) : rdX (cxU sp_check_isCond [] 40 (1048576 ^ 9)) keeps 8 ⟨185, 19, keeps 185, 2⟩ 0 (bodyX 185 0) 2 kp_check_isCond_185_0 (sT s_check_isCond_185_0_0 (un_check_isCond_185_0_0 x)) (sH s_check_isCond_185_0_0 (un_check_isCond_185_0_0 x)) (rdO (fun T h => (rdS s_check_isCond_185_0_0 T h).map fl_check_isCond_185_0_0) (getOr (getE 2 x_check_isCond_185_0_0_0 fl_check_isCond_185_0_0_0) (getE 1 x_check_isCond_185_0_0_1 fl_check_isCond_185_0_0_1))) = sx_check_isCond_185_0_0 x := by kernel_rfl
noncomputable def L_check_isCond_185_0_0 (x : X_check_isCond_185_0_0) : Option (X_check_isCond_185_0_0_0 ⊕ X_check_isCond_185_0_0_1) := iterO (fun x => st_check_isCond_185_0_0 x.1 x.2.1 x.2.2.1 x.2.2.2.1 x.2.2.2.2.1 x.2.2.2.2.2.1 x.2.2.2.2.2.2) FUEL x
noncomputable def q_check_isCond_185_0 : Nat → Tm → Prog (Nat × Tm) := (varP 2 (fun T h => (rdS s_check_isCond_185_0_0 T h).map fl_check_isCond_185_0_0) L_check_isCond_185_0_0 (fun y => .alt y (altE 2 x_check_isCond_185_0_0_0 un_check_isCond_185_0_0_0) (altE 1 x_check_isCond_185_0_0_1 un_check_isCond_185_0_0_1)) (fun _ _ => .fail))
noncomputable def lc_check_isCond_185_0 : Lpc := ⟨185, 0, 19, (fun base T => .norm base (kp_check_isCond_185_0 0) T (q_check_isCond_185_0 base)), by kernel_rfl, by kernel_rfl, (loopU sp_check_isCond [] 40 (1048576 ^ 9) 8 (keep := kp_check_isCond_185_0) (q := q_check_isCond_185_0) (by kernel_rfl) (varX_ok (s := s_check_isCond_185_0_0) (un := un_check_isCond_185_0_0) (by rfl) (fun _ => rfl) (getOr_ok (getE_ok (s := x_check_isCond_185_0_0_0) (un := un_check_isCond_185_0_0_0) (by rfl) (fun _ => rfl)) (getE_ok (s := x_check_isCond_185_0_0_1) (un := un_check_isCond_185_0_0_1) (by rfl) (fun _ => rfl))) (step := sx_check_isCond_185_0_0) rn_check_isCond_185_0_0 (fun _ _ e => ⟨_, e⟩) (altOr_ok (altE_ok 2 x_check_isCond_185_0_0_0 un_check_isCond_185_0_0_0) (altE_ok 1 x_check_isCond_185_0_0_1 un_check_isCond_185_0_0_1)) (VarOk.fail _ _)))⟩
noncomputable abbrev cx_check_isCond_186_0 := cxU sp_check_isCond [lc_check_isCond_185_0] 40 (1048576 ^ 9)
def s_check_isCond_186_0_0 : StS := ⟨[(0, .sl (.mu 1)), (1, .clo 165 [] [.ptr 2 0]), (7, .int .i64), (8, .int .i64)], [(2, .box [.clo 123 [] []]), (1, .box [.clo 122 [] []]), (0, .box [.int .i64, .int .i64, .sl (.mu 0), .sl (.mu 1)])], 3⟩
def x_check_isCond_186_0_0_0 : StS := ⟨[(4, .undef)], [(2, .box [.clo 123 [] []]), (1, .box [.clo 122 [] []]), (0, .box [.int .i64, .int .i64, .sl (.mu 0), .sl (.mu 1)])], 3⟩
def x_check_isCond_186_0_0_1 : StS := ⟨[(4, .int .i64)], [(2, .box [.clo 123 [] []]), (1, .box [.clo 122 [] []]), (0, .box [.int .i64, .int .i64, .sl (.mu 0), .sl (.mu 1)])], 3⟩
abbrev X_check_isCond_186_0_0 := ((List (RT.C 1)) × Int × Int × Int × Int × (List (RT.C 0)) × (List (RT.C 1)))
def fl_check_isCond_186_0_0 (d : StD s_check_isCond_186_0_0) : X_check_isCond_186_0_0 := (d.1.1, d.1.2.2.1, d.1.2.2.2.1, d.2.2.2.1.1, d.2.2.2.1.2.1, d.2.2.2.1.2.2.1, d.2.2.2.1.2.2.2.1)
def un_check_isCond_186_0_0 (x : X_check_isCond_186_0_0) : StD s_check_isCond_186_0_0 := ((x.1, ((), ((), ())), x.2.1, x.2.2.1, ()), ((((), ()), ()), (((), ()), ()), (x.2.2.2.1, x.2.2.2.2.1, x.2.2.2.2.2.1, x.2.2.2.2.2.2, ()), ()))
abbrev X_check_isCond_186_0_0_0 := (Int × Int × (List (RT.C 0)) × (List (RT.C 1)))
def fl_check_isCond_186_0_0_0 (d : StD x_check_isCond_186_0_0_0) : X_check_isCond_186_0_0_0 := (d.2.2.2.1.1, d.2.2.2.1.2.1, d.2.2.2.1.2.2.1, d.2.2.2.1.2.2.2.1)
def un_check_isCond_186_0_0_0 (x : X_check_isCond_186_0_0_0) : StD x_check_isCond_186_0_0_0 := (((), ()), ((((), ()), ()), (((), ()), ()), (x.1, x.2.1, x.2.2.1, x.2.2.2, ()), ()))
abbrev X_check_isCond_186_0_0_1 := (Int × Int × Int × (List (RT.C 0)) × (List (RT.C 1)))
def fl_check_isCond_186_0_0_1 (d : StD x_check_isCond_186_0_0_1) : X_check_isCond_186_0_0_1 := (d.1.1, d.2.2.2.1.1, d.2.2.2.1.2.1, d.2.2.2.1.2.2.1, d.2.2.2.1.2.2.2.1)
def un_check_isCond_186_0_0_1 (x : X_check_isCond_186_0_0_1) : StD x_check_isCond_186_0_0_1 := ((x.1, ()), ((((), ()), ()), (((), ()), ()), (x.2.1, x.2.2.1, x.2.2.2.1, x.2.2.2.2, ()), ()))
noncomputable def st_check_isCond_186_0_0 (s0 : (List (RT.C 1))) (s7 : Int) (s8 : Int) (b0 : Int) (b0_1 : Int) (b0_2 : (List (RT.C 0))) (b0_3 : (List (RT.C 1))) : Option (((List (RT.C 1)) × Int × Int × Int × Int × (List (RT.C 0)) × (List (RT.C 1))) ⊕ ((Int × Int × (List (RT.C 0)) × (List (RT.C 1))) ⊕ (Int × Int × Int × (List (RT.C 0)) × (List (RT.C 1))))) :=
  bif decide (s8 < s7) then
 bif decide (0 ≤ s8) then
 optC s0[s8.toNat]? none fun d11 ↦
 optC (Rec_check_isCond.K (uT1 d11, ())) none fun d12 ↦
 bif !d12 then some (Sum.inr (Sum.inr (s8, b0, b0_1, b0_2, b0_3))) else some (Sum.inl (s0, s7, Go.IntKind.i64.wrap (s8 + 1), b0, b0_1, b0_2, b0_3))
 else none
 else some (Sum.inr (Sum.inl (b0, b0_1, b0_2, b0_3)))
noncomputable def sx_check_isCond_186_0_0 (x : X_check_isCond_186_0_0) : Option (X_check_isCond_186_0_0 ⊕ (X_check_isCond_186_0_0_0 ⊕ X_check_isCond_186_0_0_1)) := st_check_isCond_186_0_0 x.1 x.2.1 x.2.2.1 x.2.2.2.1 x.2.2.2.2.1 x.2.2.2.2.2.1 x.2.2.2.2.2.2
theorem rn_check_isCond_186_0_0 (x : X_check_isCond_186_0_0) : rdX cx_check_isCond_186_0 keeps 8 ⟨186, 19, keeps 186, 3⟩ 0 (bodyX 186 0) 3 kp_check_isCond_186_0 (sT s_check_isCond_186_0_0 (un_check_isCond_186_0_0 x)) (sH s_check_isCond_186_0_0 (un_check_isCond_186_0_0 x)) (rdO (fun T h => (rdS s_check_isCond_186_0_0 T h).map fl_check_isCond_186_0_0) (getOr (getE 2 x_check_isCond_186_0_0_0 fl_check_isCond_186_0_0_0) (getE 1 x_check_isCond_186_0_0_1 fl_check_isCond_186_0_0_1))) = sx_check_isCond_186_0_0 x := by kernel_rfl
noncomputable def L_check_isCond_186_0_0 (x : X_check_isCond_186_0_0) : Option (X_check_isCond_186_0_0_0 ⊕ X_check_isCond_186_0_0_1) := iterO (fun x => st_check_isCond_186_0_0 x.1 x.2.1 x.2.2.1 x.2.2.2.1 x.2.2.2.2.1 x.2.2.2.2.2.1 x.2.2.2.2.2.2) FUEL x
noncomputable def q_check_isCond_186_0 : Nat → Tm → Prog (Nat × Tm) := (varP 3 (fun T h => (rdS s_check_isCond_186_0_0 T h).map fl_check_isCond_186_0_0) L_check_isCond_186_0_0 (fun y => .alt y (altE 2 x_check_isCond_186_0_0_0 un_check_isCond_186_0_0_0) (altE 1 x_check_isCond_186_0_0_1 un_check_isCond_186_0_0_1)) (fun _ _ => .fail))
noncomputable def lc_check_isCond_186_0 : Lpc := ⟨186, 0, 19, (fun base T => .norm base (kp_check_isCond_186_0 0) T (q_check_isCond_186_0 base)), by kernel_rfl, by kernel_rfl, (loopU sp_check_isCond [lc_check_isCond_185_0] 40 (1048576 ^ 9) 8 (keep := kp_check_isCond_186_0) (q := q_check_isCond_186_0) (by kernel_rfl) (varX_ok (s := s_check_isCond_186_0_0) (un := un_check_isCond_186_0_0) (by rfl) (fun _ => rfl) (getOr_ok (getE_ok (s := x_check_isCond_186_0_0_0) (un := un_check_isCond_186_0_0_0) (by rfl) (fun _ => rfl)) (getE_ok (s := x_check_isCond_186_0_0_1) (un := un_check_isCond_186_0_0_1) (by rfl) (fun _ => rfl))) (step := sx_check_isCond_186_0_0) rn_check_isCond_186_0_0 (fun _ _ e => ⟨_, e⟩) (altOr_ok (altE_ok 2 x_check_isCond_186_0_0_0 un_check_isCond_186_0_0_0) (altE_ok 1 x_check_isCond_186_0_0_1 un_check_isCond_186_0_0_1)) (VarOk.fail _ _)))⟩
noncomputable def g_check_isCond (a0 : Cd) : Option Bool :=
  bif a0.1 == 1 then
 optC (G_check_isIn (a0.2.1, 1, 6, ())) none fun d5 ↦
 bif d5 then
 bif (↑(List.length a0.2.2.2) : Int) == 0 then
 bif (↑(List.length a0.2.2.1) : Int) == 2 then
 optC (L_check_isCond_185_0_0 (a0.2.2.1, (↑(List.length a0.2.2.1) : Int), 0, a0)) none fun d6 ↦
 Sum.elim
 (fun e7 ↦
 optC (L_check_isCond_186_0_0 (e7.2.2.2, (↑e7.2.2.2.length : Int), 0, e7)) none fun d8 ↦
 Sum.elim (fun e9 ↦ some !decide (-1 ≥ 0)) (fun e9 ↦ some !decide (e9.1 ≥ 0)) d8)
 (fun e7 ↦
 bif !decide (e7.1 ≥ 0) then
 optC (L_check_isCond_186_0_0 (e7.2.2.2.2, (↑e7.2.2.2.2.length : Int), 0, e7.2)) none fun d8 ↦
 Sum.elim (fun e9 ↦ some !decide (-1 ≥ 0)) (fun e9 ↦ some !decide (e9.1 ≥ 0)) d8
 else some false)
 d6
 else some false
 else some false
 else some false
 else
 bif a0.1 == 2 then
 bif (↑(List.length a0.2.2.2) : Int) == 1 then
 bif (↑(List.length a0.2.2.1) : Int) == 0 then
 optC (L_check_isCond_185_0_0 (a0.2.2.1, (↑(List.length a0.2.2.1) : Int), 0, a0)) none fun d5 ↦
 Sum.elim
 (fun e6 ↦
 optC (L_check_isCond_186_0_0 (e6.2.2.2, (↑e6.2.2.2.length : Int), 0, e6)) none fun d7 ↦
 Sum.elim (fun e8 ↦ some !decide (-1 ≥ 0)) (fun e8 ↦ some !decide (e8.1 ≥ 0)) d7)
 (fun e6 ↦
 bif !decide (e6.1 ≥ 0) then
 optC (L_check_isCond_186_0_0 (e6.2.2.2.2, (↑e6.2.2.2.2.length : Int), 0, e6.2)) none fun d7 ↦
 Sum.elim (fun e8 ↦ some !decide (-1 ≥ 0)) (fun e8 ↦ some !decide (e8.1 ≥ 0)) d7
 else some false)
 d5
 else some false
 else some false
 else
 bif a0.1 == 3 then
 bif (↑(List.length a0.2.2.2) : Int) == 2 then
 bif (↑(List.length a0.2.2.1) : Int) == 0 then
 optC (L_check_isCond_185_0_0 (a0.2.2.1, (↑(List.length a0.2.2.1) : Int), 0, a0)) none fun d5 ↦
 Sum.elim
 (fun e6 ↦
 optC (L_check_isCond_186_0_0 (e6.2.2.2, (↑e6.2.2.2.length : Int), 0, e6)) none fun d7 ↦
 Sum.elim (fun e8 ↦ some !decide (-1 ≥ 0)) (fun e8 ↦ some !decide (e8.1 ≥ 0)) d7)
 (fun e6 ↦
 bif !decide (e6.1 ≥ 0) then
 optC (L_check_isCond_186_0_0 (e6.2.2.2.2, (↑e6.2.2.2.2.length : Int), 0, e6.2)) none fun d7 ↦
 Sum.elim (fun e8 ↦ some !decide (-1 ≥ 0)) (fun e8 ↦ some !decide (e8.1 ≥ 0)) d7
 else some false)
 d5
 else some false
 else some false
 else
 bif a0.1 == 4 then
 bif (↑(List.length a0.2.2.2) : Int) == 2 then
 bif (↑(List.length a0.2.2.1) : Int) == 0 then
 optC (L_check_isCond_185_0_0 (a0.2.2.1, (↑(List.length a0.2.2.1) : Int), 0, a0)) none fun d5 ↦
 Sum.elim
 (fun e6 ↦
 optC (L_check_isCond_186_0_0 (e6.2.2.2, (↑e6.2.2.2.length : Int), 0, e6)) none fun d7 ↦
 Sum.elim (fun e8 ↦ some !decide (-1 ≥ 0)) (fun e8 ↦ some !decide (e8.1 ≥ 0)) d7)
 (fun e6 ↦
 bif !decide (e6.1 ≥ 0) then
 optC (L_check_isCond_186_0_0 (e6.2.2.2.2, (↑e6.2.2.2.2.length : Int), 0, e6.2)) none fun d7 ↦
 Sum.elim (fun e8 ↦ some !decide (-1 ≥ 0)) (fun e8 ↦ some !decide (e8.1 ≥ 0)) d7
 else some false)
 d5
 else some false
 else some false
 else some false
theorem raw_check_isCond (a0 : Cd) : evGX1 (cxU sp_check_isCond [lc_check_isCond_185_0, lc_check_isCond_186_0] 40 (1048576 ^ 9)) keeps 8 123 ash_check_isCond (.dat .bool) ((a0, ()) : (Cd × Unit)) = g_check_isCond a0 := by kernel_rfl
noncomputable def GI_check_isCond (x : (Cd × Unit)) : Option Bool := g_check_isCond x.1
noncomputable def conI_check_isCond : List AV → Prog AV := conP true ash_check_isCond (.dat .bool) GI_check_isCond
theorem sndI_check_isCond : SoundA Tryz.prog 123 conI_check_isCond := conP_sound (evF1_sound (tabOk_of tab_ok) (cmpsOk_of tab_ok cmps_ok) mixed (inU sp_check_isCond [lc_check_isCond_185_0, lc_check_isCond_186_0] 40 (1048576 ^ 9)) (hspL sp_check_isCond) keeps 8 123) true (by rfl) (by rfl) (fun x r e => (evGX1_eq _ _ _ _ _ _ _).trans ((raw_check_isCond x.1).trans e)) (.inl rfl)
end
noncomputable def it_check_isCond : Nat → {K : (Cd × Unit) → Option Bool // SoundA Tryz.prog 123 (conP true ash_check_isCond (.dat .bool) K)}
  | 0 => ⟨fun _ => none, conP_none⟩
  | k + 1 => letI : Rec_check_isCond := ⟨(it_check_isCond k).1, (it_check_isCond k).2⟩; ⟨GI_check_isCond, sndI_check_isCond⟩
noncomputable def G_check_isCond (x : (Cd × Unit)) : Option Bool := (it_check_isCond (SizeOf.sizeOf x + 1)).1 x
noncomputable def con_check_isCond : List AV → Prog AV := conP true ash_check_isCond (.dat .bool) G_check_isCond
theorem snd_check_isCond : SoundA Tryz.prog 123 con_check_isCond := conP_pick (sh := ash_check_isCond) (rs := .dat .bool) (n := fun x : (Cd × Unit) => SizeOf.sizeOf x + 1) (F := fun k => (it_check_isCond k).1) (fun k => (it_check_isCond k).2)
end Go.Proofs.YtmjbedjnojcmfaaGreatDoor.Ex

namespace Go.Proofs.YtmjbedjnojcmfaaGreatDoor.Ex
open Go.Proofs Go.Proofs.YtmjbedjnojcmfaaGreatDoor
set_option maxRecDepth 100000
set_option maxHeartbeats 2000000
set_option linter.unusedVariables false
set_option linter.unusedSimpArgs false
def ash_check_isStmt : List Sh := [.dat tSm]
def kp_check_isStmt_125_0 : Nat → List Nat := fun c => bif c.beq 0 then [0, 1, 7, 8] else [4]
class Rec_check_isStmt where
  K : (Stm × Unit) → Option Bool
  s : SoundA Tryz.prog 86 (conP true ash_check_isStmt (.dat .bool) K)
section
variable [Rec_check_isStmt]
noncomputable def sp_check_isStmt : List Con := [⟨81, con_check_isName, snd_check_isName⟩, ⟨122, con_check_isExpr, snd_check_isExpr⟩, ⟨123, con_check_isCond, snd_check_isCond⟩, ⟨86, (conP true ash_check_isStmt (.dat .bool) Rec_check_isStmt.K), Rec_check_isStmt.s⟩]
def s_check_isStmt_125_0_1 : StS := ⟨[(0, .sl (.mu 2)), (1, .clo 92 [] [.ptr 2 0]), (7, .int .i64), (8, .int .i64)], [(2, .box [.clo 86 [] []]), (1, .box [.clo 86 [] []]), (0, .box [.int .i64, .str, .int .i64, .int .i64, .int .i64, .str, .sl (.mu 0), .int .i64, .int .i64, .int .i64, .str, .sl (.mu 0), .int .i64, .int .i64, .sl (.mu 0), .sl (.mu 1), .sl (.mu 2), .sl (.mu 2)])], 3⟩
def x_check_isStmt_125_0_1_0 : StS := ⟨[(4, .undef)], [(2, .box [.clo 86 [] []]), (1, .box [.clo 86 [] []]), (0, .box [.int .i64, .str, .int .i64, .int .i64, .int .i64, .str, .sl (.mu 0), .int .i64, .int .i64, .int .i64, .str, .sl (.mu 0), .int .i64, .int .i64, .sl (.mu 0), .sl (.mu 1), .sl (.mu 2), .sl (.mu 2)])], 3⟩
def x_check_isStmt_125_0_1_1 : StS := ⟨[(4, .int .i64)], [(2, .box [.clo 86 [] []]), (1, .box [.clo 86 [] []]), (0, .box [.int .i64, .str, .int .i64, .int .i64, .int .i64, .str, .sl (.mu 0), .int .i64, .int .i64, .int .i64, .str, .sl (.mu 0), .int .i64, .int .i64, .sl (.mu 0), .sl (.mu 1), .sl (.mu 2), .sl (.mu 2)])], 3⟩
abbrev X_check_isStmt_125_0_1 := ((List (RT.C 2)) × Int × Int × Int × ByteArray × Int × Int × Int × ByteArray × (List (RT.C 0)) × Int × Int × Int × ByteArray × (List (RT.C 0)) × Int × Int × (List (RT.C 0)) × (List (RT.C 1)) × (List (RT.C 2)) × (List (RT.C 2)))
def fl_check_isStmt_125_0_1 (d : StD s_check_isStmt_125_0_1) : X_check_isStmt_125_0_1 := (d.1.1, d.1.2.2.1, d.1.2.2.2.1, d.2.2.2.1.1, d.2.2.2.1.2.1, d.2.2.2.1.2.2.1, d.2.2.2.1.2.2.2.1, d.2.2.2.1.2.2.2.2.1, d.2.2.2.1.2.2.2.2.2.1, d.2.2.2.1.2.2.2.2.2.2.1, d.2.2.2.1.2.2.2.2.2.2.2.1, d.2.2.2.1.2.2.2.2.2.2.2.2.1, d.2.2.2.1.2.2.2.2.2.2.2.2.2.1, d.2.2.2.1.2.2.2.2.2.2.2.2.2.2.1, d.2.2.2.1.2.2.2.2.2.2.2.2.2.2.2.1, d.2.2.2.1.2.2.2.2.2.2.2.2.2.2.2.2.1, d.2.2.2.1.2.2.2.2.2.2.2.2.2.2.2.2.2.1, d.2.2.2.1.2.2.2.2.2.2.2.2.2.2.2.2.2.2.1, d.2.2.2.1.2.2.2.2.2.2.2.2.2.2.2.2.2.2.2.1, d.2.2.2.1.2.2.2.2.2.2.2.2.2.2.2.2.2.2.2.2.1, d.2.2.2.1.2.2.2.2.2.2.2.2.2.2.2.2.2.2.2.2.2.1)
def un_check_isStmt_125_0_1 (x : X_check_isStmt_125_0_1) : StD s_check_isStmt_125_0_1 := ((x.1, ((), ((), ())), x.2.1, x.2.2.1, ()), ((((), ()), ()), (((), ()), ()), (x.2.2.2.1, x.2.2.2.2.1, x.2.2.2.2.2.1, x.2.2.2.2.2.2.1, x.2.2.2.2.2.2.2.1, x.2.2.2.2.2.2.2.2.1, x.2.2.2.2.2.2.2.2.2.1, x.2.2.2.2.2.2.2.2.2.2.1, x.2.2.2.2.2.2.2.2.2.2.2.1, x.2.2.2.2.2.2.2.2.2.2.2.2.1, x.2.2.2.2.2.2.2.2.2.2.2.2.2.1, x.2.2.2.2.2.2.2.2.2.2.2.2.2.2.1, x.2.2.2.2.2.2.2.2.2.2.2.2.2.2.2.1, x.2.2.2.2.2.2.2.2.2.2.2.2.2.2.2.2.1, x.2.2.2.2.2.2.2.2.2.2.2.2.2.2.2.2.2.1, x.2.2.2.2.2.2.2.2.2.2.2.2.2.2.2.2.2.2.1, x.2.2.2.2.2.2.2.2.2.2.2.2.2.2.2.2.2.2.2.1, x.2.2.2.2.2.2.2.2.2.2.2.2.2.2.2.2.2.2.2.2, ()), ()))
abbrev X_check_isStmt_125_0_1_0 := (Int × ByteArray × Int × Int × Int × ByteArray × (List (RT.C 0)) × Int × Int × Int × ByteArray × (List (RT.C 0)) × Int × Int × (List (RT.C 0)) × (List (RT.C 1)) × (List (RT.C 2)) × (List (RT.C 2)))
def fl_check_isStmt_125_0_1_0 (d : StD x_check_isStmt_125_0_1_0) : X_check_isStmt_125_0_1_0 := (d.2.2.2.1.1, d.2.2.2.1.2.1, d.2.2.2.1.2.2.1, d.2.2.2.1.2.2.2.1, d.2.2.2.1.2.2.2.2.1, d.2.2.2.1.2.2.2.2.2.1, d.2.2.2.1.2.2.2.2.2.2.1, d.2.2.2.1.2.2.2.2.2.2.2.1, d.2.2.2.1.2.2.2.2.2.2.2.2.1, d.2.2.2.1.2.2.2.2.2.2.2.2.2.1, d.2.2.2.1.2.2.2.2.2.2.2.2.2.2.1, d.2.2.2.1.2.2.2.2.2.2.2.2.2.2.2.1, d.2.2.2.1.2.2.2.2.2.2.2.2.2.2.2.2.1, d.2.2.2.1.2.2.2.2.2.2.2.2.2.2.2.2.2.1, d.2.2.2.1.2.2.2.2.2.2.2.2.2.2.2.2.2.2.1, d.2.2.2.1.2.2.2.2.2.2.2.2.2.2.2.2.2.2.2.1, d.2.2.2.1.2.2.2.2.2.2.2.2.2.2.2.2.2.2.2.2.1, d.2.2.2.1.2.2.2.2.2.2.2.2.2.2.2.2.2.2.2.2.2.1)
def un_check_isStmt_125_0_1_0 (x : X_check_isStmt_125_0_1_0) : StD x_check_isStmt_125_0_1_0 := (((), ()), ((((), ()), ()), (((), ()), ()), (x.1, x.2.1, x.2.2.1, x.2.2.2.1, x.2.2.2.2.1, x.2.2.2.2.2.1, x.2.2.2.2.2.2.1, x.2.2.2.2.2.2.2.1, x.2.2.2.2.2.2.2.2.1, x.2.2.2.2.2.2.2.2.2.1, x.2.2.2.2.2.2.2.2.2.2.1, x.2.2.2.2.2.2.2.2.2.2.2.1, x.2.2.2.2.2.2.2.2.2.2.2.2.1, x.2.2.2.2.2.2.2.2.2.2.2.2.2.1, x.2.2.2.2.2.2.2.2.2.2.2.2.2.2.1, x.2.2.2.2.2.2.2.2.2.2.2.2.2.2.2.1, x.2.2.2.2.2.2.2.2.2.2.2.2.2.2.2.2.1, x.2.2.2.2.2.2.2.2.2.2.2.2.2.2.2.2.2, ()), ()))
abbrev X_check_isStmt_125_0_1_1 := (Int × Int × ByteArray × Int × Int × Int × ByteArray × (List (RT.C 0)) × Int × Int × Int × ByteArray × (List (RT.C 0)) × Int × Int × (List (RT.C 0)) × (List (RT.C 1)) × (List (RT.C 2)) × (List (RT.C 2)))
def fl_check_isStmt_125_0_1_1 (d : StD x_check_isStmt_125_0_1_1) : X_check_isStmt_125_0_1_1 := (d.1.1, d.2.2.2.1.1, d.2.2.2.1.2.1, d.2.2.2.1.2.2.1, d.2.2.2.1.2.2.2.1, d.2.2.2.1.2.2.2.2.1, d.2.2.2.1.2.2.2.2.2.1, d.2.2.2.1.2.2.2.2.2.2.1, d.2.2.2.1.2.2.2.2.2.2.2.1, d.2.2.2.1.2.2.2.2.2.2.2.2.1, d.2.2.2.1.2.2.2.2.2.2.2.2.2.1, d.2.2.2.1.2.2.2.2.2.2.2.2.2.2.1, d.2.2.2.1.2.2.2.2.2.2.2.2.2.2.2.1, d.2.2.2.1.2.2.2.2.2.2.2.2.2.2.2.2.1, d.2.2.2.1.2.2.2.2.2.2.2.2.2.2.2.2.2.1, d.2.2.2.1.2.2.2.2.2.2.2.2.2.2.2.2.2.2.1, d.2.2.2.1.2.2.2.2.2.2.2.2.2.2.2.2.2.2.2.1, d.2.2.2.1.2.2.2.2.2.2.2.2.2.2.2.2.2.2.2.2.1, d.2.2.2.1.2.2.2.2.2.2.2.2.2.2.2.2.2.2.2.2.2.1)
def un_check_isStmt_125_0_1_1 (x : X_check_isStmt_125_0_1_1) : StD x_check_isStmt_125_0_1_1 := ((x.1, ()), ((((), ()), ()), (((), ()), ()), (x.2.1, x.2.2.1, x.2.2.2.1, x.2.2.2.2.1, x.2.2.2.2.2.1, x.2.2.2.2.2.2.1, x.2.2.2.2.2.2.2.1, x.2.2.2.2.2.2.2.2.1, x.2.2.2.2.2.2.2.2.2.1, x.2.2.2.2.2.2.2.2.2.2.1, x.2.2.2.2.2.2.2.2.2.2.2.1, x.2.2.2.2.2.2.2.2.2.2.2.2.1, x.2.2.2.2.2.2.2.2.2.2.2.2.2.1, x.2.2.2.2.2.2.2.2.2.2.2.2.2.2.1, x.2.2.2.2.2.2.2.2.2.2.2.2.2.2.2.1, x.2.2.2.2.2.2.2.2.2.2.2.2.2.2.2.2.1, x.2.2.2.2.2.2.2.2.2.2.2.2.2.2.2.2.2.1, x.2.2.2.2.2.2.2.2.2.2.2.2.2.2.2.2.2.2, ()), ()))
noncomputable def st_check_isStmt_125_0_1 (s0 : (List (RT.C 2))) (s7 : Int) (s8 : Int) (b0 : Int) (b0_1 : ByteArray) (b0_2 : Int) (b0_3 : Int) (b0_4 : Int) (b0_5 : ByteArray) (b0_6 : (List (RT.C 0))) (b0_7 : Int) (b0_8 : Int) (b0_9 : Int) (b0_10 : ByteArray) (b0_11 : (List (RT.C 0))) (b0_12 : Int) (b0_13 : Int) (b0_14 : (List (RT.C 0))) (b0_15 : (List (RT.C 1))) (b0_16 : (List (RT.C 2))) (b0_17 : (List (RT.C 2))) : Option (((List (RT.C 2)) × Int × Int × Int × ByteArray × Int × Int × Int × ByteArray × (List (RT.C 0)) × Int × Int × Int × ByteArray × (List (RT.C 0)) × Int × Int × (List (RT.C 0)) × (List (RT.C 1)) × (List (RT.C 2)) × (List (RT.C 2))) ⊕ ((Int × ByteArray × Int × Int × Int × ByteArray × (List (RT.C 0)) × Int × Int × Int × ByteArray × (List (RT.C 0)) × Int × Int × (List (RT.C 0)) × (List (RT.C 1)) × (List (RT.C 2)) × (List (RT.C 2))) ⊕ (Int × Int × ByteArray × Int × Int × Int × ByteArray × (List (RT.C 0)) × Int × Int × Int × ByteArray × (List (RT.C 0)) × Int × Int × (List (RT.C 0)) × (List (RT.C 1)) × (List (RT.C 2)) × (List (RT.C 2))))) :=
  bif decide (s8 < s7) then
 bif decide (0 ≤ s8) then
 optC s0[s8.toNat]? none fun d25 ↦
 optC (Rec_check_isStmt.K (uT2 d25, ())) none fun d26 ↦
 bif !d26 then some (Sum.inr (Sum.inr (s8, b0, b0_1, b0_2, b0_3, b0_4, b0_5, b0_6, b0_7, b0_8, b0_9, b0_10, b0_11, b0_12, b0_13, b0_14, b0_15, b0_16, b0_17)))
 else some (Sum.inl (s0, s7, Go.IntKind.i64.wrap (s8 + 1), b0, b0_1, b0_2, b0_3, b0_4, b0_5, b0_6, b0_7, b0_8, b0_9, b0_10, b0_11, b0_12, b0_13, b0_14, b0_15, b0_16, b0_17))
 else none
 else some (Sum.inr (Sum.inl (b0, b0_1, b0_2, b0_3, b0_4, b0_5, b0_6, b0_7, b0_8, b0_9, b0_10, b0_11, b0_12, b0_13, b0_14, b0_15, b0_16, b0_17)))
noncomputable def sx_check_isStmt_125_0_1 (x : X_check_isStmt_125_0_1) : Option (X_check_isStmt_125_0_1 ⊕ (X_check_isStmt_125_0_1_0 ⊕ X_check_isStmt_125_0_1_1)) := st_check_isStmt_125_0_1 x.1 x.2.1 x.2.2.1 x.2.2.2.1 x.2.2.2.2.1 x.2.2.2.2.2.1 x.2.2.2.2.2.2.1 x.2.2.2.2.2.2.2.1 x.2.2.2.2.2.2.2.2.1 x.2.2.2.2.2.2.2.2.2.1 x.2.2.2.2.2.2.2.2.2.2.1 x.2.2.2.2.2.2.2.2.2.2.2.1 x.2.2.2.2.2.2.2.2.2.2.2.2.1 x.2.2.2.2.2.2.2.2.2.2.2.2.2.1 x.2.2.2.2.2.2.2.2.2.2.2.2.2.2.1 x.2.2.2.2.2.2.2.2.2.2.2.2.2.2.2.1 x.2.2.2.2.2.2.2.2.2.2.2.2.2.2.2.2.1 x.2.2.2.2.2.2.2.2.2.2.2.2.2.2.2.2.2.1 x.2.2.2.2.2.2.2.2.2.2.2.2.2.2.2.2.2.2.1 x.2.2.2.2.2.2.2.2.2.2.2.2.2.2.2.2.2.2.2.1 x.2.2.2.2.2.2.2.2.2.2.2.2.2.2.2.2.2.2.2.2
theorem rn_check_isStmt_125_0_1 (x : X_check_isStmt_125_0_1) : rdX (cxU sp_check_isStmt [] 40 (1048576 ^ 9)) keeps 8 ⟨125, 19, keeps 125, 3⟩ 0 (bodyX 125 0) 3 kp_check_isStmt_125_0 (sT s_check_isStmt_125_0_1 (un_check_isStmt_125_0_1 x)) (sH s_check_isStmt_125_0_1 (un_check_isStmt_125_0_1 x)) (rdO (fun T h => (rdS s_check_isStmt_125_0_1 T h).map fl_check_isStmt_125_0_1) (getOr (getE 2 x_check_isStmt_125_0_1_0 fl_check_isStmt_125_0_1_0) (getE 1 x_check_isStmt_125_0_1_1 fl_check_isStmt_125_0_1_1))) = sx_check_isStmt_125_0_1 x := by kernel_rfl
noncomputable def L_check_isStmt_125_0_1 (x : X_check_isStmt_125_0_1) : Option (X_check_isStmt_125_0_1_0 ⊕ X_check_isStmt_125_0_1_1) := iterO (fun x => st_check_isStmt_125_0_1 x.1 x.2.1 x.2.2.1 x.2.2.2.1 x.2.2.2.2.1 x.2.2.2.2.2.1 x.2.2.2.2.2.2.1 x.2.2.2.2.2.2.2.1 x.2.2.2.2.2.2.2.2.1 x.2.2.2.2.2.2.2.2.2.1 x.2.2.2.2.2.2.2.2.2.2.1 x.2.2.2.2.2.2.2.2.2.2.2.1 x.2.2.2.2.2.2.2.2.2.2.2.2.1 x.2.2.2.2.2.2.2.2.2.2.2.2.2.1 x.2.2.2.2.2.2.2.2.2.2.2.2.2.2.1 x.2.2.2.2.2.2.2.2.2.2.2.2.2.2.2.1 x.2.2.2.2.2.2.2.2.2.2.2.2.2.2.2.2.1 x.2.2.2.2.2.2.2.2.2.2.2.2.2.2.2.2.2.1 x.2.2.2.2.2.2.2.2.2.2.2.2.2.2.2.2.2.2.1 x.2.2.2.2.2.2.2.2.2.2.2.2.2.2.2.2.2.2.2.1 x.2.2.2.2.2.2.2.2.2.2.2.2.2.2.2.2.2.2.2.2) FUEL x
def s_check_isStmt_125_0_0 : StS := ⟨[(0, .sl (.mu 2)), (1, .clo 92 [] [.ptr 1 0]), (7, .int .i64), (8, .int .i64)], [(1, .box [.clo 86 [] []]), (0, .box [.int .i64, .str, .int .i64, .int .i64, .int .i64, .str, .sl (.mu 0), .int .i64, .int .i64, .int .i64, .str, .sl (.mu 0), .int .i64, .int .i64, .sl (.mu 0), .sl (.mu 1), .sl (.mu 2), .sl (.mu 2)])], 2⟩
def x_check_isStmt_125_0_0_0 : StS := ⟨[(4, .undef)], [(1, .box [.clo 86 [] []]), (0, .box [.int .i64, .str, .int .i64, .int .i64, .int .i64, .str, .sl (.mu 0), .int .i64, .int .i64, .int .i64, .str, .sl (.mu 0), .int .i64, .int .i64, .sl (.mu 0), .sl (.mu 1), .sl (.mu 2), .sl (.mu 2)])], 2⟩
def x_check_isStmt_125_0_0_1 : StS := ⟨[(4, .int .i64)], [(1, .box [.clo 86 [] []]), (0, .box [.int .i64, .str, .int .i64, .int .i64, .int .i64, .str, .sl (.mu 0), .int .i64, .int .i64, .int .i64, .str, .sl (.mu 0), .int .i64, .int .i64, .sl (.mu 0), .sl (.mu 1), .sl (.mu 2), .sl (.mu 2)])], 2⟩
abbrev X_check_isStmt_125_0_0 := ((List (RT.C 2)) × Int × Int × Int × ByteArray × Int × Int × Int × ByteArray × (List (RT.C 0)) × Int × Int × Int × ByteArray × (List (RT.C 0)) × Int × Int × (List (RT.C 0)) × (List (RT.C 1)) × (List (RT.C 2)) × (List (RT.C 2)))
def fl_check_isStmt_125_0_0 (d : StD s_check_isStmt_125_0_0) : X_check_isStmt_125_0_0 := (d.1.1, d.1.2.2.1, d.1.2.2.2.1, d.2.2.1.1, d.2.2.1.2.1, d.2.2.1.2.2.1, d.2.2.1.2.2.2.1, d.2.2.1.2.2.2.2.1, d.2.2.1.2.2.2.2.2.1, d.2.2.1.2.2.2.2.2.2.1, d.2.2.1.2.2.2.2.2.2.2.1, d.2.2.1.2.2.2.2.2.2.2.2.1, d.2.2.1.2.2.2.2.2.2.2.2.2.1, d.2.2.1.2.2.2.2.2.2.2.2.2.2.1, d.2.2.1.2.2.2.2.2.2.2.2.2.2.2.1, d.2.2.1.2.2.2.2.2.2.2.2.2.2.2.2.1, d.2.2.1.2.2.2.2.2.2.2.2.2.2.2.2.2.1, d.2.2.1.2.2.2.2.2.2.2.2.2.2.2.2.2.2.1, d.2.2.1.2.2.2.2.2.2.2.2.2.2.2.2.2.2.2.1, d.2.2.1.2.2.2.2.2.2.2.2.2.2.2.2.2.2.2.2.1, d.2.2.1.2.2.2.2.2.2.2.2.2.2.2.2.2.2.2.2.2.1)
def un_check_isStmt_125_0_0 (x : X_check_isStmt_125_0_0) : StD s_check_isStmt_125_0_0 := ((x.1, ((), ((), ())), x.2.1, x.2.2.1, ()), ((((), ()), ()), (x.2.2.2.1, x.2.2.2.2.1, x.2.2.2.2.2.1, x.2.2.2.2.2.2.1, x.2.2.2.2.2.2.2.1, x.2.2.2.2.2.2.2.2.1, x.2.2.2.2.2.2.2.2.2.1, x.2.2.2.2.2.2.2.2.2.2.1, x.2.2.2.2.2.2.2.2.2.2.2.1, x.2.2.2.2.2.2.2.2.2.2.2.2.1, x.2.2.2.2.2.2.2.2.2.2.2.2.2.1, x.2.2.2.2.2.2.2.2.2.2.2.2.2.2.1, x.2.2.2.2.2.2.2.2.2.2.2.2.2.2.2.1, x.2.2.2.2.2.2.2.2.2.2.2.2.2.2.2.2.1, x.2.2.2.2.2.2.2.2.2.2.2.2.2.2.2.2.2.1, x.2.2.2.2.2.2.2.2.2.2.2.2.2.2.2.2.2.2.1, x.2.2.2.2.2.2.2.2.2.2.2.2.2.2.2.2.2.2.2.1, x.2.2.2.2.2.2.2.2.2.2.2.2.2.2.2.2.2.2.2.2, ()), ()))
abbrev X_check_isStmt_125_0_0_0 := (Int × ByteArray × Int × Int × Int × ByteArray × (List (RT.C 0)) × Int × Int × Int × ByteArray × (List (RT.C 0)) × Int × Int × (List (RT.C 0)) × (List (RT.C 1)) × (List (RT.C 2)) × (List (RT.C 2)))
def fl_check_isStmt_125_0_0_0 (d : StD x_check_isStmt_125_0_0_0) : X_check_isStmt_125_0_0_0 := (d.2.2.1.1, d.2.2.1.2.1, d.2.2.1.2.2.1, d.2.2.1.2.2.2.1, d.2.2.1.2.2.2.2.1, d.2.2.1.2.2.2.2.2.1, d.2.2.1.2.2.2.2.2.2.1, d.2.2.1.2.2.2.2.2.2.2.1, d.2.2.1.2.2.2.2.2.2.2.2.1, d.2.2.1.2.2.2.2.2.2.2.2.2.1, d.2.2.1.2.2.2.2.2.2.2.2.2.2.1, d.2.2.1.2.2.2.2.2.2.2.2.2.2.2.1, d.2.2.1.2.2.2.2.2.2.2.2.2.2.2.2.1, d.2.2.1.2.2.2.2.2.2.2.2.2.2.2.2.2.1, d.2.2.1.2.2.2.2.2.2.2.2.2.2.2.2.2.2.1, d.2.2.1.2.2.2.2.2.2.2.2.2.2.2.2.2.2.2.1, d.2.2.1.2.2.2.2.2.2.2.2.2.2.2.2.2.2.2.2.1, d.2.2.1.2.2.2.2.2.2.2.2.2.2.2.2.2.2.2.2.2.1)
def un_check_isStmt_125_0_0_0 (x : X_check_isStmt_125_0_0_0) : StD x_check_isStmt_125_0_0_0 := (((), ()), ((((), ()), ()), (x.1, x.2.1, x.2.2.1, x.2.2.2.1, x.2.2.2.2.1, x.2.2.2.2.2.1, x.2.2.2.2.2.2.1, x.2.2.2.2.2.2.2.1, x.2.2.2.2.2.2.2.2.1, x.2.2.2.2.2.2.2.2.2.1, x.2.2.2.2.2.2.2.2.2.2.1, x.2.2.2.2.2.2.2.2.2.2.2.1, x.2.2.2.2.2.2.2.2.2.2.2.2.1, x.2.2.2.2.2.2.2.2.2.2.2.2.2.1, x.2.2.2.2.2.2.2.2.2.2.2.2.2.2.1, x.2.2.2.2.2.2.2.2.2.2.2.2.2.2.2.1, x.2.2.2.2.2.2.2.2.2.2.2.2.2.2.2.2.1, x.2.2.2.2.2.2.2.2.2.2.2.2.2.2.2.2.2, ()), ()))
abbrev X_check_isStmt_125_0_0_1 := (Int × Int × ByteArray × Int × Int × Int × ByteArray × (List (RT.C 0)) × Int × Int × Int × ByteArray × (List (RT.C 0)) × Int × Int × (List (RT.C 0)) × (List (RT.C 1)) × (List (RT.C 2)) × (List (RT.C 2)))
def fl_check_isStmt_125_0_0_1 (d : StD x_check_isStmt_125_0_0_1) : X_check_isStmt_125_0_0_1 := (d.1.1, d.2.2.1.1, d.2.2.1.2.1, d.2.2.1.2.2.1, d.2.2.1.2.2.2.1, d.2.2.1.2.2.2.2.1, d.2.2.1.2.2.2.2.2.1, d.2.2.1.2.2.2.2.2.2.1, d.2.2.1.2.2.2.2.2.2.2.1, d.2.2.1.2.2.2.2.2.2.2.2.1, d.2.2.1.2.2.2.2.2.2.2.2.2.1, d.2.2.1.2.2.2.2.2.2.2.2.2.2.1, d.2.2.1.2.2.2.2.2.2.2.2.2.2.2.1, d.2.2.1.2.2.2.2.2.2.2.2.2.2.2.2.1, d.2.2.1.2.2.2.2.2.2.2.2.2.2.2.2.2.1, d.2.2.1.2.2.2.2.2.2.2.2.2.2.2.2.2.2.1, d.2.2.1.2.2.2.2.2.2.2.2.2.2.2.2.2.2.2.1, d.2.2.1.2.2.2.2.2.2.2.2.2.2.2.2.2.2.2.2.1, d.2.2.1.2.2.2.2.2.2.2.2.2.2.2.2.2.2.2.2.2.1)
def un_check_isStmt_125_0_0_1 (x : X_check_isStmt_125_0_0_1) : StD x_check_isStmt_125_0_0_1 := ((x.1, ()), ((((), ()), ()), (x.2.1, x.2.2.1, x.2.2.2.1, x.2.2.2.2.1, x.2.2.2.2.2.1, x.2.2.2.2.2.2.1, x.2.2.2.2.2.2.2.1, x.2.2.2.2.2.2.2.2.1, x.2.2.2.2.2.2.2.2.2.1, x.2.2.2.2.2.2.2.2.2.2.1, x.2.2.2.2.2.2.2.2.2.2.2.1, x.2.2.2.2.2.2.2.2.2.2.2.2.1, x.2.2.2.2.2.2.2.2.2.2.2.2.2.1, x.2.2.2.2.2.2.2.2.2.2.2.2.2.2.1, x.2.2.2.2.2.2.2.2.2.2.2.2.2.2.2.1, x.2.2.2.2.2.2.2.2.2.2.2.2.2.2.2.2.1, x.2.2.2.2.2.2.2.2.2.2.2.2.2.2.2.2.2.1, x.2.2.2.2.2.2.2.2.2.2.2.2.2.2.2.2.2.2, ()), ()))
noncomputable def st_check_isStmt_125_0_0 (s0 : (List (RT.C 2))) (s7 : Int) (s8 : Int) (b0 : Int) (b0_1 : ByteArray) (b0_2 : Int) (b0_3 : Int) (b0_4 : Int) (b0_5 : ByteArray) (b0_6 : (List (RT.C 0))) (b0_7 : Int) (b0_8 : Int) (b0_9 : Int) (b0_10 : ByteArray) (b0_11 : (List (RT.C 0))) (b0_12 : Int) (b0_13 : Int) (b0_14 : (List (RT.C 0))) (b0_15 : (List (RT.C 1))) (b0_16 : (List (RT.C 2))) (b0_17 : (List (RT.C 2))) : Option (((List (RT.C 2)) × Int × Int × Int × ByteArray × Int × Int × Int × ByteArray × (List (RT.C 0)) × Int × Int × Int × ByteArray × (List (RT.C 0)) × Int × Int × (List (RT.C 0)) × (List (RT.C 1)) × (List (RT.C 2)) × (List (RT.C 2))) ⊕ ((Int × ByteArray × Int × Int × Int × ByteArray × (List (RT.C 0)) × Int × Int × Int × ByteArray × (List (RT.C 0)) × Int × Int × (List (RT.C 0)) × (List (RT.C 1)) × (List (RT.C 2)) × (List (RT.C 2))) ⊕ (Int × Int × ByteArray × Int × Int × Int × ByteArray × (List (RT.C 0)) × Int × Int × Int × ByteArray × (List (RT.C 0)) × Int × Int × (List (RT.C 0)) × (List (RT.C 1)) × (List (RT.C 2)) × (List (RT.C 2))))) :=
  bif decide (s8 < s7) then
 bif decide (0 ≤ s8) then
 optC s0[s8.toNat]? none fun d25 ↦
 optC (Rec_check_isStmt.K (uT2 d25, ())) none fun d26 ↦
 bif !d26 then some (Sum.inr (Sum.inr (s8, b0, b0_1, b0_2, b0_3, b0_4, b0_5, b0_6, b0_7, b0_8, b0_9, b0_10, b0_11, b0_12, b0_13, b0_14, b0_15, b0_16, b0_17)))
 else some (Sum.inl (s0, s7, Go.IntKind.i64.wrap (s8 + 1), b0, b0_1, b0_2, b0_3, b0_4, b0_5, b0_6, b0_7, b0_8, b0_9, b0_10, b0_11, b0_12, b0_13, b0_14, b0_15, b0_16, b0_17))
 else none
 else some (Sum.inr (Sum.inl (b0, b0_1, b0_2, b0_3, b0_4, b0_5, b0_6, b0_7, b0_8, b0_9, b0_10, b0_11, b0_12, b0_13, b0_14, b0_15, b0_16, b0_17)))
noncomputable def sx_check_isStmt_125_0_0 (x : X_check_isStmt_125_0_0) : Option (X_check_isStmt_125_0_0 ⊕ (X_check_isStmt_125_0_0_0 ⊕ X_check_isStmt_125_0_0_1)) := st_check_isStmt_125_0_0 x.1 x.2.1 x.2.2.1 x.2.2.2.1 x.2.2.2.2.1 x.2.2.2.2.2.1 x.2.2.2.2.2.2.1 x.2.2.2.2.2.2.2.1 x.2.2.2.2.2.2.2.2.1 x.2.2.2.2.2.2.2.2.2.1 x.2.2.2.2.2.2.2.2.2.2.1 x.2.2.2.2.2.2.2.2.2.2.2.1 x.2.2.2.2.2.2.2.2.2.2.2.2.1 x.2.2.2.2.2.2.2.2.2.2.2.2.2.1 x.2.2.2.2.2.2.2.2.2.2.2.2.2.2.1 x.2.2.2.2.2.2.2.2.2.2.2.2.2.2.2.1 x.2.2.2.2.2.2.2.2.2.2.2.2.2.2.2.2.1 x.2.2.2.2.2.2.2.2.2.2.2.2.2.2.2.2.2.1 x.2.2.2.2.2.2.2.2.2.2.2.2.2.2.2.2.2.2.1 x.2.2.2.2.2.2.2.2.2.2.2.2.2.2.2.2.2.2.2.1 x.2.2.2.2.2.2.2.2.2.2.2.2.2.2.2.2.2.2.2.2
theorem rn_check_isStmt_125_0_0 (x : X_check_isStmt_125_0_0) : rdX (cxU sp_check_isStmt [] 40 (1048576 ^ 9)) keeps 8 ⟨125, 19, keeps 125, 2⟩ 0 (bodyX 125 0) 2 kp_check_isStmt_125_0 (sT s_check_isStmt_125_0_0 (un_check_isStmt_125_0_0 x)) (sH s_check_isStmt_125_0_0 (un_check_isStmt_125_0_0 x)) (rdO (fun T h => (rdS s_check_isStmt_125_0_0 T h).map fl_check_isStmt_125_0_0) (getOr (getE 2 x_check_isStmt_125_0_0_0 fl_check_isStmt_125_0_0_0) (getE 1 x_check_isStmt_125_0_0_1 fl_check_isStmt_125_0_0_1))) = sx_check_isStmt_125_0_0 x := by kernel_rfl
noncomputable def L_check_isStmt_125_0_0 (x : X_check_isStmt_125_0_0) : Option (X_check_isStmt_125_0_0_0 ⊕ X_check_isStmt_125_0_0_1) := iterO (fun x => st_check_isStmt_125_0_0 x.1 x.2.1 x.2.2.1 x.2.2.2.1 x.2.2.2.2.1 x.2.2.2.2.2.1 x.2.2.2.2.2.2.1 x.2.2.2.2.2.2.2.1 x.2.2.2.2.2.2.2.2.1 x.2.2.2.2.2.2.2.2.2.1 x.2.2.2.2.2.2.2.2.2.2.1 x.2.2.2.2.2.2.2.2.2.2.2.1 x.2.2.2.2.2.2.2.2.2.2.2.2.1 x.2.2.2.2.2.2.2.2.2.2.2.2.2.1 x.2.2.2.2.2.2.2.2.2.2.2.2.2.2.1 x.2.2.2.2.2.2.2.2.2.2.2.2.2.2.2.1 x.2.2.2.2.2.2.2.2.2.2.2.2.2.2.2.2.1 x.2.2.2.2.2.2.2.2.2.2.2.2.2.2.2.2.2.1 x.2.2.2.2.2.2.2.2.2.2.2.2.2.2.2.2.2.2.1 x.2.2.2.2.2.2.2.2.2.2.2.2.2.2.2.2.2.2.2.1 x.2.2.2.2.2.2.2.2.2.2.2.2.2.2.2.2.2.2.2.2) FUEL x
noncomputable def q_check_isStmt_125_0 : Nat → Tm → Prog (Nat × Tm) := (varP 2 (fun T h => (rdS s_check_isStmt_125_0_0 T h).map fl_check_isStmt_125_0_0) L_check_isStmt_125_0_0 (fun y => .alt y (altE 2 x_check_isStmt_125_0_0_0 un_check_isStmt_125_0_0_0) (altE 1 x_check_isStmt_125_0_0_1 un_check_isStmt_125_0_0_1)) (varP 3 (fun T h => (rdS s_check_isStmt_125_0_1 T h).map fl_check_isStmt_125_0_1) L_check_isStmt_125_0_1 (fun y => .alt y (altE 2 x_check_isStmt_125_0_1_0 un_check_isStmt_125_0_1_0) (altE 1 x_check_isStmt_125_0_1_1 un_check_isStmt_125_0_1_1)) (fun _ _ => .fail)))
noncomputable def lc_check_isStmt_125_0 : Lpc := ⟨125, 0, 19, (fun base T => .norm base (kp_check_isStmt_125_0 0) T (q_check_isStmt_125_0 base)), by kernel_rfl, by kernel_rfl, (loopU sp_check_isStmt [] 40 (1048576 ^ 9) 8 (keep := kp_check_isStmt_125_0) (q := q_check_isStmt_125_0) (by kernel_rfl) (varX_ok (s := s_check_isStmt_125_0_0) (un := un_check_isStmt_125_0_0) (by rfl) (fun _ => rfl) (getOr_ok (getE_ok (s := x_check_isStmt_125_0_0_0) (un := un_check_isStmt_125_0_0_0) (by rfl) (fun _ => rfl)) (getE_ok (s := x_check_isStmt_125_0_0_1) (un := un_check_isStmt_125_0_0_1) (by rfl) (fun _ => rfl))) (step := sx_check_isStmt_125_0_0) rn_check_isStmt_125_0_0 (fun _ _ e => ⟨_, e⟩) (altOr_ok (altE_ok 2 x_check_isStmt_125_0_0_0 un_check_isStmt_125_0_0_0) (altE_ok 1 x_check_isStmt_125_0_0_1 un_check_isStmt_125_0_0_1)) (varX_ok (s := s_check_isStmt_125_0_1) (un := un_check_isStmt_125_0_1) (by rfl) (fun _ => rfl) (getOr_ok (getE_ok (s := x_check_isStmt_125_0_1_0) (un := un_check_isStmt_125_0_1_0) (by rfl) (fun _ => rfl)) (getE_ok (s := x_check_isStmt_125_0_1_1) (un := un_check_isStmt_125_0_1_1) (by rfl) (fun _ => rfl))) (step := sx_check_isStmt_125_0_1) rn_check_isStmt_125_0_1 (fun _ _ e => ⟨_, e⟩) (altOr_ok (altE_ok 2 x_check_isStmt_125_0_1_0 un_check_isStmt_125_0_1_0) (altE_ok 1 x_check_isStmt_125_0_1_1 un_check_isStmt_125_0_1_1)) (VarOk.fail _ _))))⟩
noncomputable def g_check_isStmt (a0 : Stm) : Option Bool :=
  bif a0.1 == 1 then
 optC (G_check_isName (a0.2.1, ())) none fun d5 ↦
 bif d5 then optC (G_check_isExpr (a0.2.2.2.1, ())) none fun d6 ↦ some d6 else some false
 else
 bif a0.1 == 2 then
 optC (G_check_isName (a0.2.1, ())) none fun d5 ↦
 bif d5 then
 optC (G_check_isExpr (a0.2.2.1, ())) none fun d6 ↦
 bif d6 then optC (G_check_isExpr (a0.2.2.2.1, ())) none fun d7 ↦ some d7 else some false
 else some false
 else
 bif a0.1 == 3 then optC (G_check_isName (a0.2.1, ())) none fun d5 ↦ some d5
 else
 bif a0.1 == 4 then optC (G_check_isName (a0.2.1, ())) none fun d5 ↦ some d5
 else
 bif a0.1 == 5 then
 optC (G_check_isCond (a0.2.2.2.2.1, ())) none fun d5 ↦
 bif d5 then
 optC
 (L_check_isStmt_125_0_0
 (a0.2.2.2.2.2.1, (↑(List.length a0.2.2.2.2.2.1) : Int), 0, a0.1, a0.2.1, a0.2.2.1.1, a0.2.2.1.2.1, a0.2.2.1.2.2.1,
 a0.2.2.1.2.2.2.1, a0.2.2.1.2.2.2.2, a0.2.2.2.1.1, a0.2.2.2.1.2.1, a0.2.2.2.1.2.2.1,
 a0.2.2.2.1.2.2.2.1, a0.2.2.2.1.2.2.2.2, a0.2.2.2.2.1.1, a0.2.2.2.2.1.2.1, a0.2.2.2.2.1.2.2.1,
 a0.2.2.2.2.1.2.2.2, a0.2.2.2.2.2))
 none fun d6 ↦
 Sum.elim
 (fun e7 ↦
 optC
 (L_check_isStmt_125_0_1
 (e7.2.2.2.2.2.2.2.2.2.2.2.2.2.2.2.2.2, (↑e7.2.2.2.2.2.2.2.2.2.2.2.2.2.2.2.2.2.length : Int), 0, e7))
 none fun d8 ↦ Sum.elim (fun e9 ↦ some !decide (-1 ≥ 0)) (fun e9 ↦ some !decide (e9.1 ≥ 0)) d8)
 (fun e7 ↦
 bif !decide (e7.1 ≥ 0) then
 optC
 (L_check_isStmt_125_0_1
 (e7.2.2.2.2.2.2.2.2.2.2.2.2.2.2.2.2.2.2, (↑e7.2.2.2.2.2.2.2.2.2.2.2.2.2.2.2.2.2.2.length : Int), 0,
 e7.2))
 none fun d8 ↦ Sum.elim (fun e9 ↦ some !decide (-1 ≥ 0)) (fun e9 ↦ some !decide (e9.1 ≥ 0)) d8
 else some false)
 d6
 else some false
 else
 bif a0.1 == 6 then
 optC (G_check_isCond (a0.2.2.2.2.1, ())) none fun d5 ↦
 bif d5 then
 optC
 (L_check_isStmt_125_0_0
 (a0.2.2.2.2.2.1, (↑(List.length a0.2.2.2.2.2.1) : Int), 0, a0.1, a0.2.1, a0.2.2.1.1, a0.2.2.1.2.1, a0.2.2.1.2.2.1,
 a0.2.2.1.2.2.2.1, a0.2.2.1.2.2.2.2, a0.2.2.2.1.1, a0.2.2.2.1.2.1, a0.2.2.2.1.2.2.1,
 a0.2.2.2.1.2.2.2.1, a0.2.2.2.1.2.2.2.2, a0.2.2.2.2.1.1, a0.2.2.2.2.1.2.1, a0.2.2.2.2.1.2.2.1,
 a0.2.2.2.2.1.2.2.2, a0.2.2.2.2.2))
 none fun d6 ↦ Sum.elim (fun e7 ↦ some !decide (-1 ≥ 0)) (fun e7 ↦ some !decide (e7.1 ≥ 0)) d6
 else some false
 else bif a0.1 == 7 then optC (G_check_isCond (a0.2.2.2.2.1, ())) none fun d5 ↦ some d5 else some (a0.1 == 8)
theorem raw_check_isStmt (a0 : Stm) : evGX1 (cxU sp_check_isStmt [lc_check_isStmt_125_0] 40 (1048576 ^ 9)) keeps 8 86 ash_check_isStmt (.dat .bool) ((a0, ()) : (Stm × Unit)) = g_check_isStmt a0 := by kernel_rfl
noncomputable def GI_check_isStmt (x : (Stm × Unit)) : Option Bool := g_check_isStmt x.1
noncomputable def conI_check_isStmt : List AV → Prog AV := conP true ash_check_isStmt (.dat .bool) GI_check_isStmt
theorem sndI_check_isStmt : SoundA Tryz.prog 86 conI_check_isStmt := conP_sound (evF1_sound (tabOk_of tab_ok) (cmpsOk_of tab_ok cmps_ok) mixed (inU sp_check_isStmt [lc_check_isStmt_125_0] 40 (1048576 ^ 9)) (hspL sp_check_isStmt) keeps 8 86) true (by rfl) (by rfl) (fun x r e => (evGX1_eq _ _ _ _ _ _ _).trans ((raw_check_isStmt x.1).trans e)) (.inl rfl)
end
noncomputable def it_check_isStmt : Nat → {K : (Stm × Unit) → Option Bool // SoundA Tryz.prog 86 (conP true ash_check_isStmt (.dat .bool) K)}
  | 0 => ⟨fun _ => none, conP_none⟩
  | k + 1 => letI : Rec_check_isStmt := ⟨(it_check_isStmt k).1, (it_check_isStmt k).2⟩; ⟨GI_check_isStmt, sndI_check_isStmt⟩
noncomputable def G_check_isStmt (x : (Stm × Unit)) : Option Bool := (it_check_isStmt (SizeOf.sizeOf x + 1)).1 x
noncomputable def con_check_isStmt : List AV → Prog AV := conP true ash_check_isStmt (.dat .bool) G_check_isStmt
theorem snd_check_isStmt : SoundA Tryz.prog 86 con_check_isStmt := conP_pick (sh := ash_check_isStmt) (rs := .dat .bool) (n := fun x : (Stm × Unit) => SizeOf.sizeOf x + 1) (F := fun k => (it_check_isStmt k).1) (fun k => (it_check_isStmt k).2)
end Go.Proofs.YtmjbedjnojcmfaaGreatDoor.Ex

namespace Go.Proofs.YtmjbedjnojcmfaaGreatDoor.Ex
open Go.Proofs Go.Proofs.YtmjbedjnojcmfaaGreatDoor
set_option maxRecDepth 100000
set_option maxHeartbeats 2000000
set_option linter.unusedVariables false
set_option linter.unusedSimpArgs false
def ash_check_isForm : List Sh := [.dat tPg]
def kp_check_isForm_47_0 : Nat → List Nat := fun c => bif c.beq 0 then [0, 1, 7, 8] else [4]
def kp_check_isForm_49_0 : Nat → List Nat := fun c => bif c.beq 0 then [0, 1, 7, 8] else [4]
def kp_check_isForm_125_0 : Nat → List Nat := fun c => bif c.beq 0 then [0, 1, 7, 8] else [4]
def kp_check_isForm_124_0 : Nat → List Nat := fun c => bif c.beq 0 then [0, 1, 7, 8] else [4]
noncomputable def sp_check_isForm : List Con := [⟨78, con_check_areNames, snd_check_areNames⟩, ⟨81, con_check_isName, snd_check_isName⟩, ⟨86, con_check_isStmt, snd_check_isStmt⟩, ⟨84, con_check_isIn, snd_check_isIn⟩, ⟨55, con_num_Fits, snd_num_Fits⟩]
def s_check_isForm_47_0_0 : StS := ⟨[(0, .sl tGb), (1, .clo 117 [] [.ptr 1 0]), (7, .int .i64), (8, .int .i64)], [(1, .box [.clo 80 [] []]), (0, .box [.sl tGb, .sl tGb, .sl .str, .sl tTh])], 2⟩
def x_check_isForm_47_0_0_0 : StS := ⟨[(4, .undef)], [(1, .box [.clo 80 [] []]), (0, .box [.sl tGb, .sl tGb, .sl .str, .sl tTh])], 2⟩
def x_check_isForm_47_0_0_1 : StS := ⟨[(4, .int .i64)], [(1, .box [.clo 80 [] []]), (0, .box [.sl tGb, .sl tGb, .sl .str, .sl tTh])], 2⟩
abbrev X_check_isForm_47_0_0 := ((List Gb) × Int × Int × (List Gb) × (List Gb) × (List ByteArray) × (List Th))
def fl_check_isForm_47_0_0 (d : StD s_check_isForm_47_0_0) : X_check_isForm_47_0_0 := (d.1.1, d.1.2.2.1, d.1.2.2.2.1, d.2.2.1.1, d.2.2.1.2.1, d.2.2.1.2.2.1, d.2.2.1.2.2.2.1)
def un_check_isForm_47_0_0 (x : X_check_isForm_47_0_0) : StD s_check_isForm_47_0_0 := ((x.1, ((), ((), ())), x.2.1, x.2.2.1, ()), ((((), ()), ()), (x.2.2.2.1, x.2.2.2.2.1, x.2.2.2.2.2.1, x.2.2.2.2.2.2, ()), ()))
abbrev X_check_isForm_47_0_0_0 := ((List Gb) × (List Gb) × (List ByteArray) × (List Th))
def fl_check_isForm_47_0_0_0 (d : StD x_check_isForm_47_0_0_0) : X_check_isForm_47_0_0_0 := (d.2.2.1.1, d.2.2.1.2.1, d.2.2.1.2.2.1, d.2.2.1.2.2.2.1)
def un_check_isForm_47_0_0_0 (x : X_check_isForm_47_0_0_0) : StD x_check_isForm_47_0_0_0 := (((), ()), ((((), ()), ()), (x.1, x.2.1, x.2.2.1, x.2.2.2, ()), ()))
abbrev X_check_isForm_47_0_0_1 := (Int × (List Gb) × (List Gb) × (List ByteArray) × (List Th))
def fl_check_isForm_47_0_0_1 (d : StD x_check_isForm_47_0_0_1) : X_check_isForm_47_0_0_1 := (d.1.1, d.2.2.1.1, d.2.2.1.2.1, d.2.2.1.2.2.1, d.2.2.1.2.2.2.1)
def un_check_isForm_47_0_0_1 (x : X_check_isForm_47_0_0_1) : StD x_check_isForm_47_0_0_1 := ((x.1, ()), ((((), ()), ()), (x.2.1, x.2.2.1, x.2.2.2.1, x.2.2.2.2, ()), ()))
noncomputable def st_check_isForm_47_0_0 (s0 : (List Gb)) (s7 : Int) (s8 : Int) (b0 : (List Gb)) (b0_1 : (List Gb)) (b0_2 : (List ByteArray)) (b0_3 : (List Th)) : Option (((List Gb) × Int × Int × (List Gb) × (List Gb) × (List ByteArray) × (List Th)) ⊕ (((List Gb) × (List Gb) × (List ByteArray) × (List Th)) ⊕ (Int × (List Gb) × (List Gb) × (List ByteArray) × (List Th)))) :=
  bif decide (s8 < s7) then
 bif decide (0 ≤ s8) then
 optC s0[s8.toNat]? none fun d12 ↦
 optC (G_check_isName (d12.1, ())) none fun d13 ↦
 bif d13 then
 optC (G_num_Fits ([d12.2], ())) none fun d14 ↦
 bif !d14 then some (Sum.inr (Sum.inr (s8, b0, b0_1, b0_2, b0_3))) else some (Sum.inl (s0, s7, Go.IntKind.i64.wrap (s8 + 1), b0, b0_1, b0_2, b0_3))
 else some (Sum.inr (Sum.inr (s8, b0, b0_1, b0_2, b0_3)))
 else none
 else some (Sum.inr (Sum.inl (b0, b0_1, b0_2, b0_3)))
noncomputable def sx_check_isForm_47_0_0 (x : X_check_isForm_47_0_0) : Option (X_check_isForm_47_0_0 ⊕ (X_check_isForm_47_0_0_0 ⊕ X_check_isForm_47_0_0_1)) := st_check_isForm_47_0_0 x.1 x.2.1 x.2.2.1 x.2.2.2.1 x.2.2.2.2.1 x.2.2.2.2.2.1 x.2.2.2.2.2.2
theorem rn_check_isForm_47_0_0 (x : X_check_isForm_47_0_0) : rdX (cxU sp_check_isForm [] 40 1048576) keeps 8 ⟨47, 19, keeps 47, 2⟩ 0 (bodyX 47 0) 2 kp_check_isForm_47_0 (sT s_check_isForm_47_0_0 (un_check_isForm_47_0_0 x)) (sH s_check_isForm_47_0_0 (un_check_isForm_47_0_0 x)) (rdO (fun T h => (rdS s_check_isForm_47_0_0 T h).map fl_check_isForm_47_0_0) (getOr (getE 2 x_check_isForm_47_0_0_0 fl_check_isForm_47_0_0_0) (getE 1 x_check_isForm_47_0_0_1 fl_check_isForm_47_0_0_1))) = sx_check_isForm_47_0_0 x := by kernel_rfl
noncomputable def L_check_isForm_47_0_0 (x : X_check_isForm_47_0_0) : Option (X_check_isForm_47_0_0_0 ⊕ X_check_isForm_47_0_0_1) := iterO (fun x => st_check_isForm_47_0_0 x.1 x.2.1 x.2.2.1 x.2.2.2.1 x.2.2.2.2.1 x.2.2.2.2.2.1 x.2.2.2.2.2.2) FUEL x
noncomputable def q_check_isForm_47_0 : Nat → Tm → Prog (Nat × Tm) := (varP 2 (fun T h => (rdS s_check_isForm_47_0_0 T h).map fl_check_isForm_47_0_0) L_check_isForm_47_0_0 (fun y => .alt y (altE 2 x_check_isForm_47_0_0_0 un_check_isForm_47_0_0_0) (altE 1 x_check_isForm_47_0_0_1 un_check_isForm_47_0_0_1)) (fun _ _ => .fail))
noncomputable def lc_check_isForm_47_0 : Lpc := ⟨47, 0, 19, (fun base T => .norm base (kp_check_isForm_47_0 0) T (q_check_isForm_47_0 base)), by kernel_rfl, by kernel_rfl, (loopU sp_check_isForm [] 40 1048576 8 (keep := kp_check_isForm_47_0) (q := q_check_isForm_47_0) (by kernel_rfl) (varX_ok (s := s_check_isForm_47_0_0) (un := un_check_isForm_47_0_0) (by rfl) (fun _ => rfl) (getOr_ok (getE_ok (s := x_check_isForm_47_0_0_0) (un := un_check_isForm_47_0_0_0) (by rfl) (fun _ => rfl)) (getE_ok (s := x_check_isForm_47_0_0_1) (un := un_check_isForm_47_0_0_1) (by rfl) (fun _ => rfl))) (step := sx_check_isForm_47_0_0) rn_check_isForm_47_0_0 (fun _ _ e => ⟨_, e⟩) (altOr_ok (altE_ok 2 x_check_isForm_47_0_0_0 un_check_isForm_47_0_0_0) (altE_ok 1 x_check_isForm_47_0_0_1 un_check_isForm_47_0_0_1)) (VarOk.fail _ _)))⟩
noncomputable abbrev cx_check_isForm_49_0 := cxU sp_check_isForm [lc_check_isForm_47_0] 40 1048576
def s_check_isForm_49_0_0 : StS := ⟨[(0, .sl tGb), (1, .clo 121 [] [.ptr 2 0]), (7, .int .i64), (8, .int .i64)], [(2, .box [.clo 83 [] []]), (1, .box [.clo 80 [] []]), (0, .box [.sl tGb, .sl tGb, .sl .str, .sl tTh])], 3⟩
def x_check_isForm_49_0_0_0 : StS := ⟨[(4, .undef)], [(2, .box [.clo 83 [] []]), (1, .box [.clo 80 [] []]), (0, .box [.sl tGb, .sl tGb, .sl .str, .sl tTh])], 3⟩
def x_check_isForm_49_0_0_1 : StS := ⟨[(4, .int .i64)], [(2, .box [.clo 83 [] []]), (1, .box [.clo 80 [] []]), (0, .box [.sl tGb, .sl tGb, .sl .str, .sl tTh])], 3⟩
abbrev X_check_isForm_49_0_0 := ((List Gb) × Int × Int × (List Gb) × (List Gb) × (List ByteArray) × (List Th))
def fl_check_isForm_49_0_0 (d : StD s_check_isForm_49_0_0) : X_check_isForm_49_0_0 := (d.1.1, d.1.2.2.1, d.1.2.2.2.1, d.2.2.2.1.1, d.2.2.2.1.2.1, d.2.2.2.1.2.2.1, d.2.2.2.1.2.2.2.1)
def un_check_isForm_49_0_0 (x : X_check_isForm_49_0_0) : StD s_check_isForm_49_0_0 := ((x.1, ((), ((), ())), x.2.1, x.2.2.1, ()), ((((), ()), ()), (((), ()), ()), (x.2.2.2.1, x.2.2.2.2.1, x.2.2.2.2.2.1, x.2.2.2.2.2.2, ()), ()))
abbrev X_check_isForm_49_0_0_0 := ((List Gb) × (List Gb) × (List ByteArray) × (List Th))
def fl_check_isForm_49_0_0_0 (d : StD x_check_isForm_49_0_0_0) : X_check_isForm_49_0_0_0 := (d.2.2.2.1.1, d.2.2.2.1.2.1, d.2.2.2.1.2.2.1, d.2.2.2.1.2.2.2.1)
def un_check_isForm_49_0_0_0 (x : X_check_isForm_49_0_0_0) : StD x_check_isForm_49_0_0_0 := (((), ()), ((((), ()), ()), (((), ()), ()), (x.1, x.2.1, x.2.2.1, x.2.2.2, ()), ()))
abbrev X_check_isForm_49_0_0_1 := (Int × (List Gb) × (List Gb) × (List ByteArray) × (List Th))
def fl_check_isForm_49_0_0_1 (d : StD x_check_isForm_49_0_0_1) : X_check_isForm_49_0_0_1 := (d.1.1, d.2.2.2.1.1, d.2.2.2.1.2.1, d.2.2.2.1.2.2.1, d.2.2.2.1.2.2.2.1)
def un_check_isForm_49_0_0_1 (x : X_check_isForm_49_0_0_1) : StD x_check_isForm_49_0_0_1 := ((x.1, ()), ((((), ()), ()), (((), ()), ()), (x.2.1, x.2.2.1, x.2.2.2.1, x.2.2.2.2, ()), ()))
noncomputable def st_check_isForm_49_0_0 (s0 : (List Gb)) (s7 : Int) (s8 : Int) (b0 : (List Gb)) (b0_1 : (List Gb)) (b0_2 : (List ByteArray)) (b0_3 : (List Th)) : Option (((List Gb) × Int × Int × (List Gb) × (List Gb) × (List ByteArray) × (List Th)) ⊕ (((List Gb) × (List Gb) × (List ByteArray) × (List Th)) ⊕ (Int × (List Gb) × (List Gb) × (List ByteArray) × (List Th)))) :=
  bif decide (s8 < s7) then
 bif decide (0 ≤ s8) then
 optC s0[s8.toNat]? none fun d12 ↦
 optC (G_check_isName (d12.1, ())) none fun d13 ↦
 bif d13 then
 optC (G_check_isIn (d12.2, 1, 16, ())) none fun d14 ↦
 bif !d14 then some (Sum.inr (Sum.inr (s8, b0, b0_1, b0_2, b0_3))) else some (Sum.inl (s0, s7, Go.IntKind.i64.wrap (s8 + 1), b0, b0_1, b0_2, b0_3))
 else some (Sum.inr (Sum.inr (s8, b0, b0_1, b0_2, b0_3)))
 else none
 else some (Sum.inr (Sum.inl (b0, b0_1, b0_2, b0_3)))
noncomputable def sx_check_isForm_49_0_0 (x : X_check_isForm_49_0_0) : Option (X_check_isForm_49_0_0 ⊕ (X_check_isForm_49_0_0_0 ⊕ X_check_isForm_49_0_0_1)) := st_check_isForm_49_0_0 x.1 x.2.1 x.2.2.1 x.2.2.2.1 x.2.2.2.2.1 x.2.2.2.2.2.1 x.2.2.2.2.2.2
theorem rn_check_isForm_49_0_0 (x : X_check_isForm_49_0_0) : rdX cx_check_isForm_49_0 keeps 8 ⟨49, 19, keeps 49, 3⟩ 0 (bodyX 49 0) 3 kp_check_isForm_49_0 (sT s_check_isForm_49_0_0 (un_check_isForm_49_0_0 x)) (sH s_check_isForm_49_0_0 (un_check_isForm_49_0_0 x)) (rdO (fun T h => (rdS s_check_isForm_49_0_0 T h).map fl_check_isForm_49_0_0) (getOr (getE 2 x_check_isForm_49_0_0_0 fl_check_isForm_49_0_0_0) (getE 1 x_check_isForm_49_0_0_1 fl_check_isForm_49_0_0_1))) = sx_check_isForm_49_0_0 x := by kernel_rfl
noncomputable def L_check_isForm_49_0_0 (x : X_check_isForm_49_0_0) : Option (X_check_isForm_49_0_0_0 ⊕ X_check_isForm_49_0_0_1) := iterO (fun x => st_check_isForm_49_0_0 x.1 x.2.1 x.2.2.1 x.2.2.2.1 x.2.2.2.2.1 x.2.2.2.2.2.1 x.2.2.2.2.2.2) FUEL x
noncomputable def q_check_isForm_49_0 : Nat → Tm → Prog (Nat × Tm) := (varP 3 (fun T h => (rdS s_check_isForm_49_0_0 T h).map fl_check_isForm_49_0_0) L_check_isForm_49_0_0 (fun y => .alt y (altE 2 x_check_isForm_49_0_0_0 un_check_isForm_49_0_0_0) (altE 1 x_check_isForm_49_0_0_1 un_check_isForm_49_0_0_1)) (fun _ _ => .fail))
noncomputable def lc_check_isForm_49_0 : Lpc := ⟨49, 0, 19, (fun base T => .norm base (kp_check_isForm_49_0 0) T (q_check_isForm_49_0 base)), by kernel_rfl, by kernel_rfl, (loopU sp_check_isForm [lc_check_isForm_47_0] 40 1048576 8 (keep := kp_check_isForm_49_0) (q := q_check_isForm_49_0) (by kernel_rfl) (varX_ok (s := s_check_isForm_49_0_0) (un := un_check_isForm_49_0_0) (by rfl) (fun _ => rfl) (getOr_ok (getE_ok (s := x_check_isForm_49_0_0_0) (un := un_check_isForm_49_0_0_0) (by rfl) (fun _ => rfl)) (getE_ok (s := x_check_isForm_49_0_0_1) (un := un_check_isForm_49_0_0_1) (by rfl) (fun _ => rfl))) (step := sx_check_isForm_49_0_0) rn_check_isForm_49_0_0 (fun _ _ e => ⟨_, e⟩) (altOr_ok (altE_ok 2 x_check_isForm_49_0_0_0 un_check_isForm_49_0_0_0) (altE_ok 1 x_check_isForm_49_0_0_1 un_check_isForm_49_0_0_1)) (VarOk.fail _ _)))⟩
noncomputable abbrev cx_check_isForm_125_0 := cxU sp_check_isForm [lc_check_isForm_47_0, lc_check_isForm_49_0] 40 1048576
def s_check_isForm_125_0_0 : StS := ⟨[(0, .sl (.mu 2)), (1, .clo 92 [] [.ptr 6 0]), (7, .int .i64), (8, .int .i64)], [(6, .box [.clo 86 [] []]), (5, .box [.str, .sl .str, .sl (.mu 2)]), (4, .box [.str, .sl .str, .sl (.mu 2)]), (3, .box [.clo 85 [] []]), (2, .box [.clo 83 [] []]), (1, .box [.clo 80 [] []]), (0, .box [.sl tGb, .sl tGb, .sl .str, .sl tTh])], 7⟩
def x_check_isForm_125_0_0_0 : StS := ⟨[(4, .undef)], [(6, .box [.clo 86 [] []]), (5, .box [.str, .sl .str, .sl (.mu 2)]), (4, .box [.str, .sl .str, .sl (.mu 2)]), (3, .box [.clo 85 [] []]), (2, .box [.clo 83 [] []]), (1, .box [.clo 80 [] []]), (0, .box [.sl tGb, .sl tGb, .sl .str, .sl tTh])], 7⟩
def x_check_isForm_125_0_0_1 : StS := ⟨[(4, .int .i64)], [(6, .box [.clo 86 [] []]), (5, .box [.str, .sl .str, .sl (.mu 2)]), (4, .box [.str, .sl .str, .sl (.mu 2)]), (3, .box [.clo 85 [] []]), (2, .box [.clo 83 [] []]), (1, .box [.clo 80 [] []]), (0, .box [.sl tGb, .sl tGb, .sl .str, .sl tTh])], 7⟩
abbrev X_check_isForm_125_0_0 := ((List (RT.C 2)) × Int × Int × ByteArray × (List ByteArray) × (List (RT.C 2)) × ByteArray × (List ByteArray) × (List (RT.C 2)) × (List Gb) × (List Gb) × (List ByteArray) × (List Th))
def fl_check_isForm_125_0_0 (d : StD s_check_isForm_125_0_0) : X_check_isForm_125_0_0 := (d.1.1, d.1.2.2.1, d.1.2.2.2.1, d.2.2.1.1, d.2.2.1.2.1, d.2.2.1.2.2.1, d.2.2.2.1.1, d.2.2.2.1.2.1, d.2.2.2.1.2.2.1, d.2.2.2.2.2.2.2.1.1, d.2.2.2.2.2.2.2.1.2.1, d.2.2.2.2.2.2.2.1.2.2.1, d.2.2.2.2.2.2.2.1.2.2.2.1)
def un_check_isForm_125_0_0 (x : X_check_isForm_125_0_0) : StD s_check_isForm_125_0_0 := ((x.1, ((), ((), ())), x.2.1, x.2.2.1, ()), ((((), ()), ()), (x.2.2.2.1, x.2.2.2.2.1, x.2.2.2.2.2.1, ()), (x.2.2.2.2.2.2.1, x.2.2.2.2.2.2.2.1, x.2.2.2.2.2.2.2.2.1, ()), (((), ()), ()), (((), ()), ()), (((), ()), ()), (x.2.2.2.2.2.2.2.2.2.1, x.2.2.2.2.2.2.2.2.2.2.1, x.2.2.2.2.2.2.2.2.2.2.2.1, x.2.2.2.2.2.2.2.2.2.2.2.2, ()), ()))
abbrev X_check_isForm_125_0_0_0 := (ByteArray × (List ByteArray) × (List (RT.C 2)) × ByteArray × (List ByteArray) × (List (RT.C 2)) × (List Gb) × (List Gb) × (List ByteArray) × (List Th))
def fl_check_isForm_125_0_0_0 (d : StD x_check_isForm_125_0_0_0) : X_check_isForm_125_0_0_0 := (d.2.2.1.1, d.2.2.1.2.1, d.2.2.1.2.2.1, d.2.2.2.1.1, d.2.2.2.1.2.1, d.2.2.2.1.2.2.1, d.2.2.2.2.2.2.2.1.1, d.2.2.2.2.2.2.2.1.2.1, d.2.2.2.2.2.2.2.1.2.2.1, d.2.2.2.2.2.2.2.1.2.2.2.1)
def un_check_isForm_125_0_0_0 (x : X_check_isForm_125_0_0_0) : StD x_check_isForm_125_0_0_0 := (((), ()), ((((), ()), ()), (x.1, x.2.1, x.2.2.1, ()), (x.2.2.2.1, x.2.2.2.2.1, x.2.2.2.2.2.1, ()), (((), ()), ()), (((), ()), ()), (((), ()), ()), (x.2.2.2.2.2.2.1, x.2.2.2.2.2.2.2.1, x.2.2.2.2.2.2.2.2.1, x.2.2.2.2.2.2.2.2.2, ()), ()))
abbrev X_check_isForm_125_0_0_1 := (Int × ByteArray × (List ByteArray) × (List (RT.C 2)) × ByteArray × (List ByteArray) × (List (RT.C 2)) × (List Gb) × (List Gb) × (List ByteArray) × (List Th))
def fl_check_isForm_125_0_0_1 (d : StD x_check_isForm_125_0_0_1) : X_check_isForm_125_0_0_1 := (d.1.1, d.2.2.1.1, d.2.2.1.2.1, d.2.2.1.2.2.1, d.2.2.2.1.1, d.2.2.2.1.2.1, d.2.2.2.1.2.2.1, d.2.2.2.2.2.2.2.1.1, d.2.2.2.2.2.2.2.1.2.1, d.2.2.2.2.2.2.2.1.2.2.1, d.2.2.2.2.2.2.2.1.2.2.2.1)
def un_check_isForm_125_0_0_1 (x : X_check_isForm_125_0_0_1) : StD x_check_isForm_125_0_0_1 := ((x.1, ()), ((((), ()), ()), (x.2.1, x.2.2.1, x.2.2.2.1, ()), (x.2.2.2.2.1, x.2.2.2.2.2.1, x.2.2.2.2.2.2.1, ()), (((), ()), ()), (((), ()), ()), (((), ()), ()), (x.2.2.2.2.2.2.2.1, x.2.2.2.2.2.2.2.2.1, x.2.2.2.2.2.2.2.2.2.1, x.2.2.2.2.2.2.2.2.2.2, ()), ()))
noncomputable def st_check_isForm_125_0_0 (s0 : (List (RT.C 2))) (s7 : Int) (s8 : Int) (b5 : ByteArray) (b5_1 : (List ByteArray)) (b5_2 : (List (RT.C 2))) (b4 : ByteArray) (b4_1 : (List ByteArray)) (b4_2 : (List (RT.C 2))) (b0 : (List Gb)) (b0_1 : (List Gb)) (b0_2 : (List ByteArray)) (b0_3 : (List Th)) : Option (((List (RT.C 2)) × Int × Int × ByteArray × (List ByteArray) × (List (RT.C 2)) × ByteArray × (List ByteArray) × (List (RT.C 2)) × (List Gb) × (List Gb) × (List ByteArray) × (List Th)) ⊕ ((ByteArray × (List ByteArray) × (List (RT.C 2)) × ByteArray × (List ByteArray) × (List (RT.C 2)) × (List Gb) × (List Gb) × (List ByteArray) × (List Th)) ⊕ (Int × ByteArray × (List ByteArray) × (List (RT.C 2)) × ByteArray × (List ByteArray) × (List (RT.C 2)) × (List Gb) × (List Gb) × (List ByteArray) × (List Th)))) :=
  bif decide (s8 < s7) then
 bif decide (0 ≤ s8) then
 optC s0[s8.toNat]? none fun d18 ↦
 optC (G_check_isStmt (uT2 d18, ())) none fun d19 ↦
 bif !d19 then some (Sum.inr (Sum.inr (s8, b5, b5_1, b5_2, b4, b4_1, b4_2, b0, b0_1, b0_2, b0_3)))
 else some (Sum.inl (s0, s7, Go.IntKind.i64.wrap (s8 + 1), b5, b5_1, b5_2, b4, b4_1, b4_2, b0, b0_1, b0_2, b0_3))
 else none
 else some (Sum.inr (Sum.inl (b5, b5_1, b5_2, b4, b4_1, b4_2, b0, b0_1, b0_2, b0_3)))
noncomputable def sx_check_isForm_125_0_0 (x : X_check_isForm_125_0_0) : Option (X_check_isForm_125_0_0 ⊕ (X_check_isForm_125_0_0_0 ⊕ X_check_isForm_125_0_0_1)) := st_check_isForm_125_0_0 x.1 x.2.1 x.2.2.1 x.2.2.2.1 x.2.2.2.2.1 x.2.2.2.2.2.1 x.2.2.2.2.2.2.1 x.2.2.2.2.2.2.2.1 x.2.2.2.2.2.2.2.2.1 x.2.2.2.2.2.2.2.2.2.1 x.2.2.2.2.2.2.2.2.2.2.1 x.2.2.2.2.2.2.2.2.2.2.2.1 x.2.2.2.2.2.2.2.2.2.2.2.2
theorem rn_check_isForm_125_0_0 (x : X_check_isForm_125_0_0) : rdX cx_check_isForm_125_0 keeps 8 ⟨125, 19, keeps 125, 7⟩ 0 (bodyX 125 0) 7 kp_check_isForm_125_0 (sT s_check_isForm_125_0_0 (un_check_isForm_125_0_0 x)) (sH s_check_isForm_125_0_0 (un_check_isForm_125_0_0 x)) (rdO (fun T h => (rdS s_check_isForm_125_0_0 T h).map fl_check_isForm_125_0_0) (getOr (getE 2 x_check_isForm_125_0_0_0 fl_check_isForm_125_0_0_0) (getE 1 x_check_isForm_125_0_0_1 fl_check_isForm_125_0_0_1))) = sx_check_isForm_125_0_0 x := by kernel_rfl
noncomputable def L_check_isForm_125_0_0 (x : X_check_isForm_125_0_0) : Option (X_check_isForm_125_0_0_0 ⊕ X_check_isForm_125_0_0_1) := iterO (fun x => st_check_isForm_125_0_0 x.1 x.2.1 x.2.2.1 x.2.2.2.1 x.2.2.2.2.1 x.2.2.2.2.2.1 x.2.2.2.2.2.2.1 x.2.2.2.2.2.2.2.1 x.2.2.2.2.2.2.2.2.1 x.2.2.2.2.2.2.2.2.2.1 x.2.2.2.2.2.2.2.2.2.2.1 x.2.2.2.2.2.2.2.2.2.2.2.1 x.2.2.2.2.2.2.2.2.2.2.2.2) FUEL x
noncomputable def q_check_isForm_125_0 : Nat → Tm → Prog (Nat × Tm) := (varP 7 (fun T h => (rdS s_check_isForm_125_0_0 T h).map fl_check_isForm_125_0_0) L_check_isForm_125_0_0 (fun y => .alt y (altE 2 x_check_isForm_125_0_0_0 un_check_isForm_125_0_0_0) (altE 1 x_check_isForm_125_0_0_1 un_check_isForm_125_0_0_1)) (fun _ _ => .fail))
noncomputable def lc_check_isForm_125_0 : Lpc := ⟨125, 0, 19, (fun base T => .norm base (kp_check_isForm_125_0 0) T (q_check_isForm_125_0 base)), by kernel_rfl, by kernel_rfl, (loopU sp_check_isForm [lc_check_isForm_47_0, lc_check_isForm_49_0] 40 1048576 8 (keep := kp_check_isForm_125_0) (q := q_check_isForm_125_0) (by kernel_rfl) (varX_ok (s := s_check_isForm_125_0_0) (un := un_check_isForm_125_0_0) (by rfl) (fun _ => rfl) (getOr_ok (getE_ok (s := x_check_isForm_125_0_0_0) (un := un_check_isForm_125_0_0_0) (by rfl) (fun _ => rfl)) (getE_ok (s := x_check_isForm_125_0_0_1) (un := un_check_isForm_125_0_0_1) (by rfl) (fun _ => rfl))) (step := sx_check_isForm_125_0_0) rn_check_isForm_125_0_0 (fun _ _ e => ⟨_, e⟩) (altOr_ok (altE_ok 2 x_check_isForm_125_0_0_0 un_check_isForm_125_0_0_0) (altE_ok 1 x_check_isForm_125_0_0_1 un_check_isForm_125_0_0_1)) (VarOk.fail _ _)))⟩
noncomputable abbrev cx_check_isForm_124_0 := cxU sp_check_isForm [lc_check_isForm_47_0, lc_check_isForm_49_0, lc_check_isForm_125_0] 40 1048576
def s_check_isForm_124_0_0 : StS := ⟨[(0, .sl tTh), (1, .clo 90 [] [.ptr 3 0]), (7, .int .i64), (8, .int .i64)], [(3, .box [.clo 85 [] []]), (2, .box [.clo 83 [] []]), (1, .box [.clo 80 [] []]), (0, .box [.sl tGb, .sl tGb, .sl .str, .sl tTh])], 4⟩
def x_check_isForm_124_0_0_0 : StS := ⟨[(4, .undef)], [(3, .box [.clo 85 [] []]), (2, .box [.clo 83 [] []]), (1, .box [.clo 80 [] []]), (0, .box [.sl tGb, .sl tGb, .sl .str, .sl tTh])], 4⟩
def x_check_isForm_124_0_0_1 : StS := ⟨[(4, .int .i64)], [(3, .box [.clo 85 [] []]), (2, .box [.clo 83 [] []]), (1, .box [.clo 80 [] []]), (0, .box [.sl tGb, .sl tGb, .sl .str, .sl tTh])], 4⟩
abbrev X_check_isForm_124_0_0 := ((List Th) × Int × Int × (List Gb) × (List Gb) × (List ByteArray) × (List Th))
def fl_check_isForm_124_0_0 (d : StD s_check_isForm_124_0_0) : X_check_isForm_124_0_0 := (d.1.1, d.1.2.2.1, d.1.2.2.2.1, d.2.2.2.2.1.1, d.2.2.2.2.1.2.1, d.2.2.2.2.1.2.2.1, d.2.2.2.2.1.2.2.2.1)
def un_check_isForm_124_0_0 (x : X_check_isForm_124_0_0) : StD s_check_isForm_124_0_0 := ((x.1, ((), ((), ())), x.2.1, x.2.2.1, ()), ((((), ()), ()), (((), ()), ()), (((), ()), ()), (x.2.2.2.1, x.2.2.2.2.1, x.2.2.2.2.2.1, x.2.2.2.2.2.2, ()), ()))
abbrev X_check_isForm_124_0_0_0 := ((List Gb) × (List Gb) × (List ByteArray) × (List Th))
def fl_check_isForm_124_0_0_0 (d : StD x_check_isForm_124_0_0_0) : X_check_isForm_124_0_0_0 := (d.2.2.2.2.1.1, d.2.2.2.2.1.2.1, d.2.2.2.2.1.2.2.1, d.2.2.2.2.1.2.2.2.1)
def un_check_isForm_124_0_0_0 (x : X_check_isForm_124_0_0_0) : StD x_check_isForm_124_0_0_0 := (((), ()), ((((), ()), ()), (((), ()), ()), (((), ()), ()), (x.1, x.2.1, x.2.2.1, x.2.2.2, ()), ()))
abbrev X_check_isForm_124_0_0_1 := (Int × (List Gb) × (List Gb) × (List ByteArray) × (List Th))
def fl_check_isForm_124_0_0_1 (d : StD x_check_isForm_124_0_0_1) : X_check_isForm_124_0_0_1 := (d.1.1, d.2.2.2.2.1.1, d.2.2.2.2.1.2.1, d.2.2.2.2.1.2.2.1, d.2.2.2.2.1.2.2.2.1)
def un_check_isForm_124_0_0_1 (x : X_check_isForm_124_0_0_1) : StD x_check_isForm_124_0_0_1 := ((x.1, ()), ((((), ()), ()), (((), ()), ()), (((), ()), ()), (x.2.1, x.2.2.1, x.2.2.2.1, x.2.2.2.2, ()), ()))
noncomputable def st_check_isForm_124_0_0 (s0 : (List Th)) (s7 : Int) (s8 : Int) (b0 : (List Gb)) (b0_1 : (List Gb)) (b0_2 : (List ByteArray)) (b0_3 : (List Th)) : Option (((List Th) × Int × Int × (List Gb) × (List Gb) × (List ByteArray) × (List Th)) ⊕ (((List Gb) × (List Gb) × (List ByteArray) × (List Th)) ⊕ (Int × (List Gb) × (List Gb) × (List ByteArray) × (List Th)))) :=
  bif decide (s8 < s7) then
 bif decide (0 ≤ s8) then
 optC s0[s8.toNat]? none fun d12 ↦
 optC (G_check_isName (d12.1, ())) none fun d13 ↦
 bif d13 then
 optC (G_check_areNames (d12.2.1, ())) none fun d14 ↦
 bif d14 then
 optC (L_check_isForm_125_0_0 (d12.2.2, (↑(List.length d12.2.2) : Int), 0, d12.1, d12.2.1, d12.2.2, d12.1, d12.2.1, d12.2.2, b0, b0_1, b0_2, b0_3))
 none fun d15 ↦
 Sum.elim
 (fun e16 ↦
 some
 (Sum.inl
 (s0, s7, Go.IntKind.i64.wrap (s8 + 1), e16.2.2.2.2.2.2.1, e16.2.2.2.2.2.2.2.1, e16.2.2.2.2.2.2.2.2.1,
 e16.2.2.2.2.2.2.2.2.2)))
 (fun e16 ↦
 bif !!decide (e16.1 ≥ 0) then
 some
 (Sum.inr
 (Sum.inr
 (s8, e16.2.2.2.2.2.2.2.1, e16.2.2.2.2.2.2.2.2.1, e16.2.2.2.2.2.2.2.2.2.1,
 e16.2.2.2.2.2.2.2.2.2.2)))
 else
 some
 (Sum.inl
 (s0, s7, Go.IntKind.i64.wrap (s8 + 1), e16.2.2.2.2.2.2.2.1, e16.2.2.2.2.2.2.2.2.1, e16.2.2.2.2.2.2.2.2.2.1,
 e16.2.2.2.2.2.2.2.2.2.2)))
 d15
 else some (Sum.inr (Sum.inr (s8, b0, b0_1, b0_2, b0_3)))
 else some (Sum.inr (Sum.inr (s8, b0, b0_1, b0_2, b0_3)))
 else none
 else some (Sum.inr (Sum.inl (b0, b0_1, b0_2, b0_3)))
noncomputable def sx_check_isForm_124_0_0 (x : X_check_isForm_124_0_0) : Option (X_check_isForm_124_0_0 ⊕ (X_check_isForm_124_0_0_0 ⊕ X_check_isForm_124_0_0_1)) := st_check_isForm_124_0_0 x.1 x.2.1 x.2.2.1 x.2.2.2.1 x.2.2.2.2.1 x.2.2.2.2.2.1 x.2.2.2.2.2.2
theorem rn_check_isForm_124_0_0 (x : X_check_isForm_124_0_0) : rdX cx_check_isForm_124_0 keeps 8 ⟨124, 19, keeps 124, 4⟩ 0 (bodyX 124 0) 4 kp_check_isForm_124_0 (sT s_check_isForm_124_0_0 (un_check_isForm_124_0_0 x)) (sH s_check_isForm_124_0_0 (un_check_isForm_124_0_0 x)) (rdO (fun T h => (rdS s_check_isForm_124_0_0 T h).map fl_check_isForm_124_0_0) (getOr (getE 2 x_check_isForm_124_0_0_0 fl_check_isForm_124_0_0_0) (getE 1 x_check_isForm_124_0_0_1 fl_check_isForm_124_0_0_1))) = sx_check_isForm_124_0_0 x := by kernel_rfl
noncomputable def L_check_isForm_124_0_0 (x : X_check_isForm_124_0_0) : Option (X_check_isForm_124_0_0_0 ⊕ X_check_isForm_124_0_0_1) := iterO (fun x => st_check_isForm_124_0_0 x.1 x.2.1 x.2.2.1 x.2.2.2.1 x.2.2.2.2.1 x.2.2.2.2.2.1 x.2.2.2.2.2.2) FUEL x
noncomputable def q_check_isForm_124_0 : Nat → Tm → Prog (Nat × Tm) := (varP 4 (fun T h => (rdS s_check_isForm_124_0_0 T h).map fl_check_isForm_124_0_0) L_check_isForm_124_0_0 (fun y => .alt y (altE 2 x_check_isForm_124_0_0_0 un_check_isForm_124_0_0_0) (altE 1 x_check_isForm_124_0_0_1 un_check_isForm_124_0_0_1)) (fun _ _ => .fail))
noncomputable def lc_check_isForm_124_0 : Lpc := ⟨124, 0, 19, (fun base T => .norm base (kp_check_isForm_124_0 0) T (q_check_isForm_124_0 base)), by kernel_rfl, by kernel_rfl, (loopU sp_check_isForm [lc_check_isForm_47_0, lc_check_isForm_49_0, lc_check_isForm_125_0] 40 1048576 8 (keep := kp_check_isForm_124_0) (q := q_check_isForm_124_0) (by kernel_rfl) (varX_ok (s := s_check_isForm_124_0_0) (un := un_check_isForm_124_0_0) (by rfl) (fun _ => rfl) (getOr_ok (getE_ok (s := x_check_isForm_124_0_0_0) (un := un_check_isForm_124_0_0_0) (by rfl) (fun _ => rfl)) (getE_ok (s := x_check_isForm_124_0_0_1) (un := un_check_isForm_124_0_0_1) (by rfl) (fun _ => rfl))) (step := sx_check_isForm_124_0_0) rn_check_isForm_124_0_0 (fun _ _ e => ⟨_, e⟩) (altOr_ok (altE_ok 2 x_check_isForm_124_0_0_0 un_check_isForm_124_0_0_0) (altE_ok 1 x_check_isForm_124_0_0_1 un_check_isForm_124_0_0_1)) (VarOk.fail _ _)))⟩
noncomputable def g_check_isForm (a0 : Pg) : Option Bool :=
  bif decide ((↑(List.length a0.2.2.2) : Int) > 0) then
 optC (G_check_areNames (a0.2.2.1, ())) none fun d6 ↦
 bif d6 then
 optC (L_check_isForm_47_0_0 (a0.1, (↑(List.length a0.1) : Int), 0, a0)) none fun d7 ↦
 Sum.elim
 (fun e8 ↦
 optC (L_check_isForm_49_0_0 (e8.2.1, (↑e8.2.1.length : Int), 0, e8)) none fun d9 ↦
 Sum.elim
 (fun e10 ↦
 optC (L_check_isForm_124_0_0 (e10.2.2.2, (↑e10.2.2.2.length : Int), 0, e10)) none fun d11 ↦
 Sum.elim (fun e12 ↦ some !decide (-1 ≥ 0)) (fun e12 ↦ some !decide (e12.1 ≥ 0)) d11)
 (fun e10 ↦
 bif !decide (e10.1 ≥ 0) then
 optC (L_check_isForm_124_0_0 (e10.2.2.2.2, (↑e10.2.2.2.2.length : Int), 0, e10.2)) none fun d11 ↦
 Sum.elim (fun e12 ↦ some !decide (-1 ≥ 0)) (fun e12 ↦ some !decide (e12.1 ≥ 0)) d11
 else some false)
 d9)
 (fun e8 ↦
 bif !decide (e8.1 ≥ 0) then
 optC (L_check_isForm_49_0_0 (e8.2.2.1, (↑e8.2.2.1.length : Int), 0, e8.2)) none fun d9 ↦
 Sum.elim
 (fun e10 ↦
 optC (L_check_isForm_124_0_0 (e10.2.2.2, (↑e10.2.2.2.length : Int), 0, e10)) none fun d11 ↦
 Sum.elim (fun e12 ↦ some !decide (-1 ≥ 0)) (fun e12 ↦ some !decide (e12.1 ≥ 0)) d11)
 (fun e10 ↦
 bif !decide (e10.1 ≥ 0) then
 optC (L_check_isForm_124_0_0 (e10.2.2.2.2, (↑e10.2.2.2.2.length : Int), 0, e10.2)) none fun d11 ↦
 Sum.elim (fun e12 ↦ some !decide (-1 ≥ 0)) (fun e12 ↦ some !decide (e12.1 ≥ 0)) d11
 else some false)
 d9
 else some false)
 d7
 else some false
 else some false
theorem raw_check_isForm (a0 : Pg) : evGX (cxU sp_check_isForm [lc_check_isForm_47_0, lc_check_isForm_49_0, lc_check_isForm_125_0, lc_check_isForm_124_0] 40 1048576) keeps 8 38 ash_check_isForm (.dat .bool) ((a0, ()) : (Pg × Unit)) = g_check_isForm a0 := by kernel_rfl
noncomputable def G_check_isForm (x : (Pg × Unit)) : Option Bool := g_check_isForm x.1
noncomputable def con_check_isForm : List AV → Prog AV := conP false ash_check_isForm (.dat .bool) G_check_isForm
theorem snd_check_isForm : SoundA Tryz.prog 38 con_check_isForm := conP_sound (calU sp_check_isForm [lc_check_isForm_47_0, lc_check_isForm_49_0, lc_check_isForm_125_0, lc_check_isForm_124_0] 40 1048576 8 38) false (by rfl) (by rfl) (fun x r e => (evGX_eq _ _ _ _ _ _ _).trans ((raw_check_isForm x.1).trans e)) (.inr fun _ => rfl)
end Go.Proofs.YtmjbedjnojcmfaaGreatDoor.Ex

namespace Go.Proofs.YtmjbedjnojcmfaaGreatDoor.Ex
open Go.Proofs Go.Proofs.YtmjbedjnojcmfaaGreatDoor
noncomputable def cx_slices_Clone_string : Ctx := { tab := tab, spec := fun _ => none, inl := inl, lps := fun _ _ => none, fuel := 40 }
noncomputable def con_slices_Clone_string : List AV → Prog AV := cloneP 16 .str
theorem snd_slices_Clone_string : SoundA Tryz.prog 88 con_slices_Clone_string :=
  clone_sound (cx := cx_slices_Clone_string) (cal := fun _ _ => .fail) (i := ⟨(.sl .str), 24, 9, [], false⟩) (ie := ⟨.str, 16, 0, [], false⟩) (tabOk_of tab_ok) Tryz.func88 (inl_ok 88 Tryz.f88 rfl).2 (t := 24) (tb := 4) (s0 := "slices.go:355") (s1 := "slices.go:357") (s2 := "slices.go:358") (s3 := "slices.go:362") (by kernel_rfl) (by kernel_rfl) (by kernel_rfl) rfl rfl rfl rfl
end Go.Proofs.YtmjbedjnojcmfaaGreatDoor.Ex

namespace Go.Proofs.YtmjbedjnojcmfaaGreatDoor.Ex
open Go.Proofs Go.Proofs.YtmjbedjnojcmfaaGreatDoor
set_option maxRecDepth 100000
set_option maxHeartbeats 2000000
set_option linter.unusedVariables false
set_option linter.unusedSimpArgs false
def ash_slices_Index_string : List Sh := [.dat (.sl .str), .dat .str]
def kp_slices_Index_string_76_0 : Nat → List Nat := fun c => bif c.beq 0 then [0, 1, 7, 8] else [4]
noncomputable def sp_slices_Index_string : List Con := []
def s_slices_Index_string_76_0_0 : StS := ⟨[(0, .sl .str), (1, .str), (7, .int .i64), (8, .int .i64)], [], 0⟩
def x_slices_Index_string_76_0_0_0 : StS := ⟨[(4, .undef)], [], 0⟩
def x_slices_Index_string_76_0_0_1 : StS := ⟨[(4, .int .i64)], [], 0⟩
abbrev X_slices_Index_string_76_0_0 := ((List ByteArray) × ByteArray × Int × Int)
def fl_slices_Index_string_76_0_0 (d : StD s_slices_Index_string_76_0_0) : X_slices_Index_string_76_0_0 := (d.1.1, d.1.2.1, d.1.2.2.1, d.1.2.2.2.1)
def un_slices_Index_string_76_0_0 (x : X_slices_Index_string_76_0_0) : StD s_slices_Index_string_76_0_0 := ((x.1, x.2.1, x.2.2.1, x.2.2.2, ()), ())
abbrev X_slices_Index_string_76_0_0_0 := Unit
def fl_slices_Index_string_76_0_0_0 (d : StD x_slices_Index_string_76_0_0_0) : X_slices_Index_string_76_0_0_0 := ()
def un_slices_Index_string_76_0_0_0 (x : X_slices_Index_string_76_0_0_0) : StD x_slices_Index_string_76_0_0_0 := (((), ()), ())
abbrev X_slices_Index_string_76_0_0_1 := Int
def fl_slices_Index_string_76_0_0_1 (d : StD x_slices_Index_string_76_0_0_1) : X_slices_Index_string_76_0_0_1 := (d.1.1)
def un_slices_Index_string_76_0_0_1 (x : X_slices_Index_string_76_0_0_1) : StD x_slices_Index_string_76_0_0_1 := ((x, ()), ())
noncomputable def st_slices_Index_string_76_0_0 (s0 : (List ByteArray)) (s1 : ByteArray) (s7 : Int) (s8 : Int) : Option (((List ByteArray) × ByteArray × Int × Int) ⊕ (Unit ⊕ Int)) :=
  bif decide (s8 < s7) then
 bif decide (0 ≤ s8) then
 optC s0[s8.toNat]? none fun d6 ↦ bif s1.toList == ByteArray.toList d6 then some (Sum.inr (Sum.inr s8)) else some (Sum.inl (s0, s1, s7, Go.IntKind.i64.wrap (s8 + 1)))
 else none
 else some (Sum.inr (Sum.inl PUnit.unit))
noncomputable def sx_slices_Index_string_76_0_0 (x : X_slices_Index_string_76_0_0) : Option (X_slices_Index_string_76_0_0 ⊕ (X_slices_Index_string_76_0_0_0 ⊕ X_slices_Index_string_76_0_0_1)) := st_slices_Index_string_76_0_0 x.1 x.2.1 x.2.2.1 x.2.2.2
theorem rn_slices_Index_string_76_0_0 (x : X_slices_Index_string_76_0_0) : rdX (cxU sp_slices_Index_string [] 40 1048576) keeps 8 ⟨76, 19, keeps 76, 0⟩ 0 (bodyX 76 0) 0 kp_slices_Index_string_76_0 (sT s_slices_Index_string_76_0_0 (un_slices_Index_string_76_0_0 x)) (sH s_slices_Index_string_76_0_0 (un_slices_Index_string_76_0_0 x)) (rdO (fun T h => (rdS s_slices_Index_string_76_0_0 T h).map fl_slices_Index_string_76_0_0) (getOr (getE 2 x_slices_Index_string_76_0_0_0 fl_slices_Index_string_76_0_0_0) (getE 1 x_slices_Index_string_76_0_0_1 fl_slices_Index_string_76_0_0_1))) = sx_slices_Index_string_76_0_0 x := by kernel_rfl
noncomputable def L_slices_Index_string_76_0_0 (x : X_slices_Index_string_76_0_0) : Option (X_slices_Index_string_76_0_0_0 ⊕ X_slices_Index_string_76_0_0_1) := iterO (fun x => st_slices_Index_string_76_0_0 x.1 x.2.1 x.2.2.1 x.2.2.2) FUEL x
noncomputable def q_slices_Index_string_76_0 : Nat → Tm → Prog (Nat × Tm) := (varP 0 (fun T h => (rdS s_slices_Index_string_76_0_0 T h).map fl_slices_Index_string_76_0_0) L_slices_Index_string_76_0_0 (fun y => .alt y (altE 2 x_slices_Index_string_76_0_0_0 un_slices_Index_string_76_0_0_0) (altE 1 x_slices_Index_string_76_0_0_1 un_slices_Index_string_76_0_0_1)) (fun _ _ => .fail))
noncomputable def lc_slices_Index_string_76_0 : Lpc := ⟨76, 0, 19, (fun base T => .norm base (kp_slices_Index_string_76_0 0) T (q_slices_Index_string_76_0 base)), by kernel_rfl, by kernel_rfl, (loopU sp_slices_Index_string [] 40 1048576 8 (keep := kp_slices_Index_string_76_0) (q := q_slices_Index_string_76_0) (by kernel_rfl) (varX_ok (s := s_slices_Index_string_76_0_0) (un := un_slices_Index_string_76_0_0) (by rfl) (fun _ => rfl) (getOr_ok (getE_ok (s := x_slices_Index_string_76_0_0_0) (un := un_slices_Index_string_76_0_0_0) (by rfl) (fun _ => rfl)) (getE_ok (s := x_slices_Index_string_76_0_0_1) (un := un_slices_Index_string_76_0_0_1) (by rfl) (fun _ => rfl))) (step := sx_slices_Index_string_76_0_0) rn_slices_Index_string_76_0_0 (fun _ _ e => ⟨_, e⟩) (altOr_ok (altE_ok 2 x_slices_Index_string_76_0_0_0 un_slices_Index_string_76_0_0_0) (altE_ok 1 x_slices_Index_string_76_0_0_1 un_slices_Index_string_76_0_0_1)) (VarOk.fail _ _)))⟩
noncomputable def g_slices_Index_string (a0 : (List ByteArray)) (a1 : ByteArray) : Option Int :=
  optC (L_slices_Index_string_76_0_0 (a0, a1, (↑a0.length : Int), 0)) none fun d4 ↦ Sum.elim (fun e5 ↦ some (-1)) (fun e5 ↦ some e5) d4
theorem raw_slices_Index_string (a0 : (List ByteArray)) (a1 : ByteArray) : evGX (cxU sp_slices_Index_string [lc_slices_Index_string_76_0] 40 1048576) keeps 8 76 ash_slices_Index_string (.dat (.int .i64)) ((a0, a1, ()) : ((List ByteArray) × (ByteArray × Unit))) = g_slices_Index_string a0 a1 := by kernel_rfl
noncomputable def G_slices_Index_string (x : ((List ByteArray) × (ByteArray × Unit))) : Option Int := g_slices_Index_string x.1 x.2.1
noncomputable def con_slices_Index_string : List AV → Prog AV := conP true ash_slices_Index_string (.dat (.int .i64)) G_slices_Index_string
theorem snd_slices_Index_string : SoundA Tryz.prog 76 con_slices_Index_string := conP_sound (calU sp_slices_Index_string [lc_slices_Index_string_76_0] 40 1048576 8 76) true (by rfl) (by rfl) (fun x r e => (evGX_eq _ _ _ _ _ _ _).trans ((raw_slices_Index_string x.1 x.2.1).trans e)) (.inl rfl)
end Go.Proofs.YtmjbedjnojcmfaaGreatDoor.Ex

namespace Go.Proofs.YtmjbedjnojcmfaaGreatDoor.Ex
open Go.Proofs Go.Proofs.YtmjbedjnojcmfaaGreatDoor
set_option maxRecDepth 100000
set_option maxHeartbeats 2000000
set_option linter.unusedVariables false
set_option linter.unusedSimpArgs false
def ash_check_place : List Sh := [.dat .str, .dat (.sl .str)]
noncomputable def sp_check_place : List Con := [⟨76, con_slices_Index_string, snd_slices_Index_string⟩]
noncomputable def g_check_place (a0 : ByteArray) (a1 : (List ByteArray)) : Option Int :=
  optC (G_slices_Index_string (a1, a0, ())) none fun d3 ↦ some d3
theorem raw_check_place (a0 : ByteArray) (a1 : (List ByteArray)) : evGX (cxU sp_check_place [] 40 1048576) keeps 8 35 ash_check_place (.dat (.int .i64)) ((a0, a1, ()) : (ByteArray × ((List ByteArray) × Unit))) = g_check_place a0 a1 := by kernel_rfl
noncomputable def G_check_place (x : (ByteArray × ((List ByteArray) × Unit))) : Option Int := g_check_place x.1 x.2.1
noncomputable def con_check_place : List AV → Prog AV := conP false ash_check_place (.dat (.int .i64)) G_check_place
theorem snd_check_place : SoundA Tryz.prog 35 con_check_place := conP_sound (calU sp_check_place [] 40 1048576 8 35) false (by rfl) (by rfl) (fun x r e => (evGX_eq _ _ _ _ _ _ _).trans ((raw_check_place x.1 x.2.1).trans e)) (.inr fun _ => rfl)
end Go.Proofs.YtmjbedjnojcmfaaGreatDoor.Ex

namespace Go.Proofs.YtmjbedjnojcmfaaGreatDoor.Ex
open Go.Proofs Go.Proofs.YtmjbedjnojcmfaaGreatDoor
set_option maxRecDepth 100000
set_option maxHeartbeats 2000000
set_option linter.unusedVariables false
set_option linter.unusedSimpArgs false
def ash_check_isTwice : List Sh := [.dat (.sl .str)]
def kp_check_isTwice_87_0 : Nat → List Nat := fun c => bif c.beq 0 then [0, 5, 6, 7] else [2]
noncomputable def sp_check_isTwice : List Con := [⟨35, con_check_place, snd_check_place⟩]
def s_check_isTwice_87_0_0 : StS := ⟨[(0, .sl .str), (5, .sl .str), (6, .int .i64), (7, .int .i64)], [], 0⟩
def x_check_isTwice_87_0_0_0 : StS := ⟨[(2, .undef)], [], 0⟩
def x_check_isTwice_87_0_0_1 : StS := ⟨[(2, .bool)], [], 0⟩
abbrev X_check_isTwice_87_0_0 := ((List ByteArray) × (List ByteArray) × Int × Int)
def fl_check_isTwice_87_0_0 (d : StD s_check_isTwice_87_0_0) : X_check_isTwice_87_0_0 := (d.1.1, d.1.2.1, d.1.2.2.1, d.1.2.2.2.1)
def un_check_isTwice_87_0_0 (x : X_check_isTwice_87_0_0) : StD s_check_isTwice_87_0_0 := ((x.1, x.2.1, x.2.2.1, x.2.2.2, ()), ())
abbrev X_check_isTwice_87_0_0_0 := Unit
def fl_check_isTwice_87_0_0_0 (d : StD x_check_isTwice_87_0_0_0) : X_check_isTwice_87_0_0_0 := ()
def un_check_isTwice_87_0_0_0 (x : X_check_isTwice_87_0_0_0) : StD x_check_isTwice_87_0_0_0 := (((), ()), ())
abbrev X_check_isTwice_87_0_0_1 := Bool
def fl_check_isTwice_87_0_0_1 (d : StD x_check_isTwice_87_0_0_1) : X_check_isTwice_87_0_0_1 := (d.1.1)
def un_check_isTwice_87_0_0_1 (x : X_check_isTwice_87_0_0_1) : StD x_check_isTwice_87_0_0_1 := ((x, ()), ())
noncomputable def st_check_isTwice_87_0_0 (s0 : (List ByteArray)) (s5 : (List ByteArray)) (s6 : Int) (s7 : Int) : Option (((List ByteArray) × (List ByteArray) × Int × Int) ⊕ (Unit ⊕ Bool)) :=
  bif decide (s7 < s6) then
 bif decide (0 ≤ s7) then
 optC s5[s7.toNat]? none fun d6 ↦
 bif decide ((0 : Int) ≤ 0 ∧ 0 ≤ s7 ∧ s7 ≤ (↑s0.length : Int)) then
 optC (G_check_place (d6, List.drop (Int.toNat (0 : Int)) (List.take s7.toNat s0), ())) none fun d7 ↦
 bif decide (d7 ≥ 0) then some (Sum.inr (Sum.inr true)) else some (Sum.inl (s0, s5, s6, Go.IntKind.i64.wrap (s7 + 1)))
 else none
 else none
 else some (Sum.inr (Sum.inl PUnit.unit))
noncomputable def sx_check_isTwice_87_0_0 (x : X_check_isTwice_87_0_0) : Option (X_check_isTwice_87_0_0 ⊕ (X_check_isTwice_87_0_0_0 ⊕ X_check_isTwice_87_0_0_1)) := st_check_isTwice_87_0_0 x.1 x.2.1 x.2.2.1 x.2.2.2
theorem rn_check_isTwice_87_0_0 (x : X_check_isTwice_87_0_0) : rdX (cxU sp_check_isTwice [] 40 1048576) keeps 8 ⟨87, 19, keeps 87, 0⟩ 0 (bodyX 87 0) 0 kp_check_isTwice_87_0 (sT s_check_isTwice_87_0_0 (un_check_isTwice_87_0_0 x)) (sH s_check_isTwice_87_0_0 (un_check_isTwice_87_0_0 x)) (rdO (fun T h => (rdS s_check_isTwice_87_0_0 T h).map fl_check_isTwice_87_0_0) (getOr (getE 2 x_check_isTwice_87_0_0_0 fl_check_isTwice_87_0_0_0) (getE 1 x_check_isTwice_87_0_0_1 fl_check_isTwice_87_0_0_1))) = sx_check_isTwice_87_0_0 x := by kernel_rfl
noncomputable def L_check_isTwice_87_0_0 (x : X_check_isTwice_87_0_0) : Option (X_check_isTwice_87_0_0_0 ⊕ X_check_isTwice_87_0_0_1) := iterO (fun x => st_check_isTwice_87_0_0 x.1 x.2.1 x.2.2.1 x.2.2.2) FUEL x
noncomputable def q_check_isTwice_87_0 : Nat → Tm → Prog (Nat × Tm) := (varP 0 (fun T h => (rdS s_check_isTwice_87_0_0 T h).map fl_check_isTwice_87_0_0) L_check_isTwice_87_0_0 (fun y => .alt y (altE 2 x_check_isTwice_87_0_0_0 un_check_isTwice_87_0_0_0) (altE 1 x_check_isTwice_87_0_0_1 un_check_isTwice_87_0_0_1)) (fun _ _ => .fail))
noncomputable def lc_check_isTwice_87_0 : Lpc := ⟨87, 0, 19, (fun base T => .norm base (kp_check_isTwice_87_0 0) T (q_check_isTwice_87_0 base)), by kernel_rfl, by kernel_rfl, (loopU sp_check_isTwice [] 40 1048576 8 (keep := kp_check_isTwice_87_0) (q := q_check_isTwice_87_0) (by kernel_rfl) (varX_ok (s := s_check_isTwice_87_0_0) (un := un_check_isTwice_87_0_0) (by rfl) (fun _ => rfl) (getOr_ok (getE_ok (s := x_check_isTwice_87_0_0_0) (un := un_check_isTwice_87_0_0_0) (by rfl) (fun _ => rfl)) (getE_ok (s := x_check_isTwice_87_0_0_1) (un := un_check_isTwice_87_0_0_1) (by rfl) (fun _ => rfl))) (step := sx_check_isTwice_87_0_0) rn_check_isTwice_87_0_0 (fun _ _ e => ⟨_, e⟩) (altOr_ok (altE_ok 2 x_check_isTwice_87_0_0_0 un_check_isTwice_87_0_0_0) (altE_ok 1 x_check_isTwice_87_0_0_1 un_check_isTwice_87_0_0_1)) (VarOk.fail _ _)))⟩
noncomputable def g_check_isTwice (a0 : (List ByteArray)) : Option Bool :=
  optC (L_check_isTwice_87_0_0 (a0, a0, (↑a0.length : Int), 0)) none fun d3 ↦ Sum.elim (fun e4 ↦ some false) (fun e4 ↦ some e4) d3
theorem raw_check_isTwice (a0 : (List ByteArray)) : evGX (cxU sp_check_isTwice [lc_check_isTwice_87_0] 40 1048576) keeps 8 87 ash_check_isTwice (.dat .bool) ((a0, ()) : ((List ByteArray) × Unit)) = g_check_isTwice a0 := by kernel_rfl
noncomputable def G_check_isTwice (x : ((List ByteArray) × Unit)) : Option Bool := g_check_isTwice x.1
noncomputable def con_check_isTwice : List AV → Prog AV := conP false ash_check_isTwice (.dat .bool) G_check_isTwice
theorem snd_check_isTwice : SoundA Tryz.prog 87 con_check_isTwice := conP_sound (calU sp_check_isTwice [lc_check_isTwice_87_0] 40 1048576 8 87) false (by rfl) (by rfl) (fun x r e => (evGX_eq _ _ _ _ _ _ _).trans ((raw_check_isTwice x.1).trans e)) (.inr fun _ => rfl)
end Go.Proofs.YtmjbedjnojcmfaaGreatDoor.Ex

namespace Go.Proofs.YtmjbedjnojcmfaaGreatDoor.Ex
open Go.Proofs Go.Proofs.YtmjbedjnojcmfaaGreatDoor
set_option maxRecDepth 100000
set_option maxHeartbeats 2000000
set_option linter.unusedVariables false
set_option linter.unusedSimpArgs false
def ash_check_isAlone : List Sh := [.dat tPg]
def kp_check_isAlone_39_0 : Nat → List Nat := fun c => bif c.beq 0 then [1, 3, 4, 12, 13, 14] else [1, 3, 4]
def kp_check_isAlone_39_2 : Nat → List Nat := fun c => bif c.beq 0 then [1, 3, 4, 25, 26, 27] else [1, 3, 4]
def kp_check_isAlone_39_4 : Nat → List Nat := fun c => bif c.beq 0 then [3, 4, 42, 43, 44] else [2, 4]
noncomputable def sp_check_isAlone : List Con := [⟨88, con_slices_Clone_string, snd_slices_Clone_string⟩, ⟨87, con_check_isTwice, snd_check_isTwice⟩]
def s_check_isAlone_39_0_0 : StS := ⟨[(1, .ptr 0 0), (3, .row 1), (4, .nil), (12, .sl tGb), (13, .int .i64), (14, .int .i64)], [(0, .box [.sl tGb, .sl tGb, .sl .str, .sl tTh]), (1, .row .str)], 2⟩
def x_check_isAlone_39_0_0_0 : StS := ⟨[(1, .ptr 0 0), (3, .row 1), (4, .nil)], [(0, .box [.sl tGb, .sl tGb, .sl .str, .sl tTh]), (1, .row .str)], 2⟩
abbrev X_check_isAlone_39_0_0 := ((List Gb) × Int × Int × (List Gb) × (List Gb) × (List ByteArray) × (List Th) × (List ByteArray))
def fl_check_isAlone_39_0_0 (d : StD s_check_isAlone_39_0_0) : X_check_isAlone_39_0_0 := (d.1.2.2.2.1, d.1.2.2.2.2.1, d.1.2.2.2.2.2.1, d.2.1.1, d.2.1.2.1, d.2.1.2.2.1, d.2.1.2.2.2.1, d.2.2.1)
def un_check_isAlone_39_0_0 (x : X_check_isAlone_39_0_0) : StD s_check_isAlone_39_0_0 := (((), (), (), x.1, x.2.1, x.2.2.1, ()), ((x.2.2.2.1, x.2.2.2.2.1, x.2.2.2.2.2.1, x.2.2.2.2.2.2.1, ()), x.2.2.2.2.2.2.2, ()))
abbrev X_check_isAlone_39_0_0_0 := ((List Gb) × (List Gb) × (List ByteArray) × (List Th) × (List ByteArray))
def fl_check_isAlone_39_0_0_0 (d : StD x_check_isAlone_39_0_0_0) : X_check_isAlone_39_0_0_0 := (d.2.1.1, d.2.1.2.1, d.2.1.2.2.1, d.2.1.2.2.2.1, d.2.2.1)
def un_check_isAlone_39_0_0_0 (x : X_check_isAlone_39_0_0_0) : StD x_check_isAlone_39_0_0_0 := (((), (), (), ()), ((x.1, x.2.1, x.2.2.1, x.2.2.2.1, ()), x.2.2.2.2, ()))
noncomputable def st_check_isAlone_39_0_0 (s12 : (List Gb)) (s13 : Int) (s14 : Int) (b0 : (List Gb)) (b0_1 : (List Gb)) (b0_2 : (List ByteArray)) (b0_3 : (List Th)) (b1 : (List ByteArray)) : Option (((List Gb) × Int × Int × (List Gb) × (List Gb) × (List ByteArray) × (List Th) × (List ByteArray)) ⊕ ((List Gb) × (List Gb) × (List ByteArray) × (List Th) × (List ByteArray))) :=
  bif decide (s14 < s13) then
 bif decide (0 ≤ s14) then
 optC s12[s14.toNat]? none fun d12 ↦
 bif decide ((b1.length + [d12.1].length + 1) * 16 ≤ lim) then some (Sum.inl (s12, s13, Go.IntKind.i64.wrap (s14 + 1), b0, b0_1, b0_2, b0_3, b1 ++ [d12.1]))
 else none
 else none
 else some (Sum.inr (b0, b0_1, b0_2, b0_3, b1))
noncomputable def sx_check_isAlone_39_0_0 (x : X_check_isAlone_39_0_0) : Option (X_check_isAlone_39_0_0 ⊕ X_check_isAlone_39_0_0_0) := st_check_isAlone_39_0_0 x.1 x.2.1 x.2.2.1 x.2.2.2.1 x.2.2.2.2.1 x.2.2.2.2.2.1 x.2.2.2.2.2.2.1 x.2.2.2.2.2.2.2
theorem rn_check_isAlone_39_0_0 (x : X_check_isAlone_39_0_0) : rdX (cxU sp_check_isAlone [] 40 1048576) keeps 8 ⟨39, 63, keeps 39, 0⟩ 0 (bodyX 39 0) 0 kp_check_isAlone_39_0 (sT s_check_isAlone_39_0_0 (un_check_isAlone_39_0_0 x)) (sH s_check_isAlone_39_0_0 (un_check_isAlone_39_0_0 x)) (rdO (fun T h => (rdS s_check_isAlone_39_0_0 T h).map fl_check_isAlone_39_0_0) (getE 2 x_check_isAlone_39_0_0_0 fl_check_isAlone_39_0_0_0)) = sx_check_isAlone_39_0_0 x := by kernel_rfl
noncomputable def L_check_isAlone_39_0_0 (x : X_check_isAlone_39_0_0) : Option X_check_isAlone_39_0_0_0 := iterO (fun x => st_check_isAlone_39_0_0 x.1 x.2.1 x.2.2.1 x.2.2.2.1 x.2.2.2.2.1 x.2.2.2.2.2.1 x.2.2.2.2.2.2.1 x.2.2.2.2.2.2.2) FUEL x
noncomputable def q_check_isAlone_39_0 : Nat → Tm → Prog (Nat × Tm) := (varP 0 (fun T h => (rdS s_check_isAlone_39_0_0 T h).map fl_check_isAlone_39_0_0) L_check_isAlone_39_0_0 (altE 2 x_check_isAlone_39_0_0_0 un_check_isAlone_39_0_0_0) (fun _ _ => .fail))
noncomputable def lc_check_isAlone_39_0 : Lpc := ⟨39, 0, 63, (ownP [] [(3, .str)] (kp_check_isAlone_39_0 0) (fun base T => .norm base (kp_check_isAlone_39_0 0) T (q_check_isAlone_39_0 base))), by kernel_rfl, by kernel_rfl, (own_sound (loopU sp_check_isAlone [] 40 1048576 8 (keep := kp_check_isAlone_39_0) (q := q_check_isAlone_39_0) (by kernel_rfl) (varX_ok (s := s_check_isAlone_39_0_0) (un := un_check_isAlone_39_0_0) (by rfl) (fun _ => rfl) (getE_ok (s := x_check_isAlone_39_0_0_0) (un := un_check_isAlone_39_0_0_0) (by rfl) (fun _ => rfl)) (step := sx_check_isAlone_39_0_0) rn_check_isAlone_39_0_0 (fun _ _ e => ⟨_, e⟩) (altE_ok 2 x_check_isAlone_39_0_0_0 un_check_isAlone_39_0_0_0) (VarOk.fail _ _))))⟩
noncomputable abbrev cx_check_isAlone_39_2 := cxU sp_check_isAlone [lc_check_isAlone_39_0] 40 1048576
def s_check_isAlone_39_2_0 : StS := ⟨[(1, .ptr 0 0), (3, .row 1), (4, .nil), (25, .sl tGb), (26, .int .i64), (27, .int .i64)], [(0, .box [.sl tGb, .sl tGb, .sl .str, .sl tTh]), (1, .row .str)], 2⟩
def x_check_isAlone_39_2_0_0 : StS := ⟨[(1, .ptr 0 0), (3, .row 1), (4, .nil)], [(0, .box [.sl tGb, .sl tGb, .sl .str, .sl tTh]), (1, .row .str)], 2⟩
abbrev X_check_isAlone_39_2_0 := ((List Gb) × Int × Int × (List Gb) × (List Gb) × (List ByteArray) × (List Th) × (List ByteArray))
def fl_check_isAlone_39_2_0 (d : StD s_check_isAlone_39_2_0) : X_check_isAlone_39_2_0 := (d.1.2.2.2.1, d.1.2.2.2.2.1, d.1.2.2.2.2.2.1, d.2.1.1, d.2.1.2.1, d.2.1.2.2.1, d.2.1.2.2.2.1, d.2.2.1)
def un_check_isAlone_39_2_0 (x : X_check_isAlone_39_2_0) : StD s_check_isAlone_39_2_0 := (((), (), (), x.1, x.2.1, x.2.2.1, ()), ((x.2.2.2.1, x.2.2.2.2.1, x.2.2.2.2.2.1, x.2.2.2.2.2.2.1, ()), x.2.2.2.2.2.2.2, ()))
abbrev X_check_isAlone_39_2_0_0 := ((List Gb) × (List Gb) × (List ByteArray) × (List Th) × (List ByteArray))
def fl_check_isAlone_39_2_0_0 (d : StD x_check_isAlone_39_2_0_0) : X_check_isAlone_39_2_0_0 := (d.2.1.1, d.2.1.2.1, d.2.1.2.2.1, d.2.1.2.2.2.1, d.2.2.1)
def un_check_isAlone_39_2_0_0 (x : X_check_isAlone_39_2_0_0) : StD x_check_isAlone_39_2_0_0 := (((), (), (), ()), ((x.1, x.2.1, x.2.2.1, x.2.2.2.1, ()), x.2.2.2.2, ()))
noncomputable def st_check_isAlone_39_2_0 (s25 : (List Gb)) (s26 : Int) (s27 : Int) (b0 : (List Gb)) (b0_1 : (List Gb)) (b0_2 : (List ByteArray)) (b0_3 : (List Th)) (b1 : (List ByteArray)) : Option (((List Gb) × Int × Int × (List Gb) × (List Gb) × (List ByteArray) × (List Th) × (List ByteArray)) ⊕ ((List Gb) × (List Gb) × (List ByteArray) × (List Th) × (List ByteArray))) :=
  bif decide (s27 < s26) then
 bif decide (0 ≤ s27) then
 optC s25[s27.toNat]? none fun d12 ↦
 bif decide ((b1.length + [d12.1].length + 1) * 16 ≤ lim) then some (Sum.inl (s25, s26, Go.IntKind.i64.wrap (s27 + 1), b0, b0_1, b0_2, b0_3, b1 ++ [d12.1]))
 else none
 else none
 else some (Sum.inr (b0, b0_1, b0_2, b0_3, b1))
noncomputable def sx_check_isAlone_39_2_0 (x : X_check_isAlone_39_2_0) : Option (X_check_isAlone_39_2_0 ⊕ X_check_isAlone_39_2_0_0) := st_check_isAlone_39_2_0 x.1 x.2.1 x.2.2.1 x.2.2.2.1 x.2.2.2.2.1 x.2.2.2.2.2.1 x.2.2.2.2.2.2.1 x.2.2.2.2.2.2.2
theorem rn_check_isAlone_39_2_0 (x : X_check_isAlone_39_2_0) : rdX cx_check_isAlone_39_2 keeps 8 ⟨39, 63, keeps 39, 0⟩ 2 (bodyX 39 2) 0 kp_check_isAlone_39_2 (sT s_check_isAlone_39_2_0 (un_check_isAlone_39_2_0 x)) (sH s_check_isAlone_39_2_0 (un_check_isAlone_39_2_0 x)) (rdO (fun T h => (rdS s_check_isAlone_39_2_0 T h).map fl_check_isAlone_39_2_0) (getE 4 x_check_isAlone_39_2_0_0 fl_check_isAlone_39_2_0_0)) = sx_check_isAlone_39_2_0 x := by kernel_rfl
noncomputable def L_check_isAlone_39_2_0 (x : X_check_isAlone_39_2_0) : Option X_check_isAlone_39_2_0_0 := iterO (fun x => st_check_isAlone_39_2_0 x.1 x.2.1 x.2.2.1 x.2.2.2.1 x.2.2.2.2.1 x.2.2.2.2.2.1 x.2.2.2.2.2.2.1 x.2.2.2.2.2.2.2) FUEL x
noncomputable def q_check_isAlone_39_2 : Nat → Tm → Prog (Nat × Tm) := (varP 0 (fun T h => (rdS s_check_isAlone_39_2_0 T h).map fl_check_isAlone_39_2_0) L_check_isAlone_39_2_0 (altE 4 x_check_isAlone_39_2_0_0 un_check_isAlone_39_2_0_0) (fun _ _ => .fail))
noncomputable def lc_check_isAlone_39_2 : Lpc := ⟨39, 2, 63, (fun base T => .norm base (kp_check_isAlone_39_2 0) T (q_check_isAlone_39_2 base)), by kernel_rfl, by kernel_rfl, (loopU sp_check_isAlone [lc_check_isAlone_39_0] 40 1048576 8 (keep := kp_check_isAlone_39_2) (q := q_check_isAlone_39_2) (by kernel_rfl) (varX_ok (s := s_check_isAlone_39_2_0) (un := un_check_isAlone_39_2_0) (by rfl) (fun _ => rfl) (getE_ok (s := x_check_isAlone_39_2_0_0) (un := un_check_isAlone_39_2_0_0) (by rfl) (fun _ => rfl)) (step := sx_check_isAlone_39_2_0) rn_check_isAlone_39_2_0 (fun _ _ e => ⟨_, e⟩) (altE_ok 4 x_check_isAlone_39_2_0_0 un_check_isAlone_39_2_0_0) (VarOk.fail _ _)))⟩
noncomputable abbrev cx_check_isAlone_39_4 := cxU sp_check_isAlone [lc_check_isAlone_39_0, lc_check_isAlone_39_2] 40 1048576
def s_check_isAlone_39_4_0 : StS := ⟨[(3, .row 0), (4, .row 1), (42, .sl tTh), (43, .int .i64), (44, .int .i64)], [(0, .row .str), (1, .row .str)], 2⟩
def x_check_isAlone_39_4_0_0 : StS := ⟨[(2, .undef), (4, .row 0)], [(0, .row .str)], 1⟩
def x_check_isAlone_39_4_0_1 : StS := ⟨[(2, .bool), (4, .row 0)], [(0, .row .str)], 1⟩
abbrev X_check_isAlone_39_4_0 := ((List Th) × Int × Int × (List ByteArray) × (List ByteArray))
def fl_check_isAlone_39_4_0 (d : StD s_check_isAlone_39_4_0) : X_check_isAlone_39_4_0 := (d.1.2.2.1, d.1.2.2.2.1, d.1.2.2.2.2.1, d.2.1, d.2.2.1)
def un_check_isAlone_39_4_0 (x : X_check_isAlone_39_4_0) : StD s_check_isAlone_39_4_0 := (((), (), x.1, x.2.1, x.2.2.1, ()), (x.2.2.2.1, x.2.2.2.2, ()))
abbrev X_check_isAlone_39_4_0_0 := (List ByteArray)
def fl_check_isAlone_39_4_0_0 (d : StD x_check_isAlone_39_4_0_0) : X_check_isAlone_39_4_0_0 := (d.2.1)
def un_check_isAlone_39_4_0_0 (x : X_check_isAlone_39_4_0_0) : StD x_check_isAlone_39_4_0_0 := (((), (), ()), (x, ()))
abbrev X_check_isAlone_39_4_0_1 := (Bool × (List ByteArray))
def fl_check_isAlone_39_4_0_1 (d : StD x_check_isAlone_39_4_0_1) : X_check_isAlone_39_4_0_1 := (d.1.1, d.2.1)
def un_check_isAlone_39_4_0_1 (x : X_check_isAlone_39_4_0_1) : StD x_check_isAlone_39_4_0_1 := ((x.1, (), ()), (x.2, ()))
noncomputable def st_check_isAlone_39_4_0 (s42 : (List Th)) (s43 : Int) (s44 : Int) (b0 : (List ByteArray)) (b1 : (List ByteArray)) : Option (((List Th) × Int × Int × (List ByteArray) × (List ByteArray)) ⊕ ((List ByteArray) ⊕ (Bool × (List ByteArray)))) :=
  bif decide (s44 < s43) then
 bif decide (0 ≤ s44) then
 optC s42[s44.toNat]? none fun d9 ↦
 bif decide ((b1.length + [d9.1].length + 1) * 16 ≤ lim) then
 bif decide (((List.length (α := I) []) + b0.length + 1) * 16 ≤ lim) then
 bif decide ((([] ++ b0).length + List.length d9.2.1 + 1) * 16 ≤ lim) then
 optC (G_check_isTwice ([] ++ b0 ++ d9.2.1, ())) none fun d10 ↦
 bif d10 then some (Sum.inr (Sum.inr (false, b1 ++ [d9.1]))) else some (Sum.inl (s42, s43, Go.IntKind.i64.wrap (s44 + 1), b0, b1 ++ [d9.1]))
 else none
 else none
 else none
 else none
 else some (Sum.inr (Sum.inl b1))
noncomputable def sx_check_isAlone_39_4_0 (x : X_check_isAlone_39_4_0) : Option (X_check_isAlone_39_4_0 ⊕ (X_check_isAlone_39_4_0_0 ⊕ X_check_isAlone_39_4_0_1)) := st_check_isAlone_39_4_0 x.1 x.2.1 x.2.2.1 x.2.2.2.1 x.2.2.2.2
theorem rn_check_isAlone_39_4_0 (x : X_check_isAlone_39_4_0) : rdX cx_check_isAlone_39_4 keeps 8 ⟨39, 63, keeps 39, 0⟩ 4 (bodyX 39 4) 0 kp_check_isAlone_39_4 (sT s_check_isAlone_39_4_0 (un_check_isAlone_39_4_0 x)) (sH s_check_isAlone_39_4_0 (un_check_isAlone_39_4_0 x)) (rdO (fun T h => (rdS s_check_isAlone_39_4_0 T h).map fl_check_isAlone_39_4_0) (getOr (getE 6 x_check_isAlone_39_4_0_0 fl_check_isAlone_39_4_0_0) (getE 1 x_check_isAlone_39_4_0_1 fl_check_isAlone_39_4_0_1))) = sx_check_isAlone_39_4_0 x := by kernel_rfl
noncomputable def L_check_isAlone_39_4_0 (x : X_check_isAlone_39_4_0) : Option (X_check_isAlone_39_4_0_0 ⊕ X_check_isAlone_39_4_0_1) := iterO (fun x => st_check_isAlone_39_4_0 x.1 x.2.1 x.2.2.1 x.2.2.2.1 x.2.2.2.2) FUEL x
noncomputable def q_check_isAlone_39_4 : Nat → Tm → Prog (Nat × Tm) := (varP 0 (fun T h => (rdS s_check_isAlone_39_4_0 T h).map fl_check_isAlone_39_4_0) L_check_isAlone_39_4_0 (fun y => .alt y (altE 6 x_check_isAlone_39_4_0_0 un_check_isAlone_39_4_0_0) (altE 1 x_check_isAlone_39_4_0_1 un_check_isAlone_39_4_0_1)) (fun _ _ => .fail))
noncomputable def lc_check_isAlone_39_4 : Lpc := ⟨39, 4, 63, (ownP [] [(4, .str)] (kp_check_isAlone_39_4 0) (fun base T => .norm base (kp_check_isAlone_39_4 0) T (q_check_isAlone_39_4 base))), by kernel_rfl, by kernel_rfl, (own_sound (loopU sp_check_isAlone [lc_check_isAlone_39_0, lc_check_isAlone_39_2] 40 1048576 8 (keep := kp_check_isAlone_39_4) (q := q_check_isAlone_39_4) (by kernel_rfl) (varX_ok (s := s_check_isAlone_39_4_0) (un := un_check_isAlone_39_4_0) (by rfl) (fun _ => rfl) (getOr_ok (getE_ok (s := x_check_isAlone_39_4_0_0) (un := un_check_isAlone_39_4_0_0) (by rfl) (fun _ => rfl)) (getE_ok (s := x_check_isAlone_39_4_0_1) (un := un_check_isAlone_39_4_0_1) (by rfl) (fun _ => rfl))) (step := sx_check_isAlone_39_4_0) rn_check_isAlone_39_4_0 (fun _ _ e => ⟨_, e⟩) (altOr_ok (altE_ok 6 x_check_isAlone_39_4_0_0 un_check_isAlone_39_4_0_0) (altE_ok 1 x_check_isAlone_39_4_0_1 un_check_isAlone_39_4_0_1)) (VarOk.fail _ _))))⟩
noncomputable def g_check_isAlone (a0 : Pg) : Option Bool :=
  optC (L_check_isAlone_39_0_0 (a0.1, (↑(List.length a0.1) : Int), 0, a0.1, a0.2.1, a0.2.2.1, a0.2.2.2, [])) none fun d5 ↦
 optC (L_check_isAlone_39_2_0 (d5.2.1, (↑d5.2.1.length : Int), 0, d5)) none fun d6 ↦
 bif decide ((d6.2.2.2.2.length + d6.2.2.1.length + 1) * 16 ≤ lim) then
 optC (L_check_isAlone_39_4_0 (d6.2.2.2.1, (↑d6.2.2.2.1.length : Int), 0, d6.2.2.2.2 ++ d6.2.2.1, [])) none fun d7 ↦
 Sum.elim (fun e8 ↦ optC (G_check_isTwice (e8, ())) none fun d9 ↦ some !d9) (fun e8 ↦ some e8.1) d7
 else none
theorem raw_check_isAlone (a0 : Pg) : evGX (cxU sp_check_isAlone [lc_check_isAlone_39_0, lc_check_isAlone_39_2, lc_check_isAlone_39_4] 40 1048576) keeps 8 39 ash_check_isAlone (.dat .bool) ((a0, ()) : (Pg × Unit)) = g_check_isAlone a0 := by kernel_rfl
noncomputable def G_check_isAlone (x : (Pg × Unit)) : Option Bool := g_check_isAlone x.1
noncomputable def con_check_isAlone : List AV → Prog AV := conP false ash_check_isAlone (.dat .bool) G_check_isAlone
theorem snd_check_isAlone : SoundA Tryz.prog 39 con_check_isAlone := conP_sound (calU sp_check_isAlone [lc_check_isAlone_39_0, lc_check_isAlone_39_2, lc_check_isAlone_39_4] 40 1048576 8 39) false (by rfl) (by rfl) (fun x r e => (evGX_eq _ _ _ _ _ _ _).trans ((raw_check_isAlone x.1).trans e)) (.inr fun _ => rfl)
end Go.Proofs.YtmjbedjnojcmfaaGreatDoor.Ex

namespace Go.Proofs.YtmjbedjnojcmfaaGreatDoor.Ex
open Go.Proofs Go.Proofs.YtmjbedjnojcmfaaGreatDoor
set_option maxRecDepth 100000
set_option maxHeartbeats 2000000
set_option linter.unusedVariables false
set_option linter.unusedSimpArgs false
def ash_check_Local : List Sh := [.dat tTh, .dat .str]
noncomputable def sp_check_Local : List Con := [⟨35, con_check_place, snd_check_place⟩]
noncomputable def g_check_Local (a0 : Th) (a1 : ByteArray) : Option Int :=
  optC (G_check_place (a1, a0.2.1, ())) none fun d3 ↦ some d3
theorem raw_check_Local (a0 : Th) (a1 : ByteArray) : evGX (cxU sp_check_Local [] 40 1048576) keeps 8 9 ash_check_Local (.dat (.int .i64)) ((a0, a1, ()) : (Th × (ByteArray × Unit))) = g_check_Local a0 a1 := by kernel_rfl
noncomputable def G_check_Local (x : (Th × (ByteArray × Unit))) : Option Int := g_check_Local x.1 x.2.1
noncomputable def con_check_Local : List AV → Prog AV := conP false ash_check_Local (.dat (.int .i64)) G_check_Local
theorem snd_check_Local : SoundA Tryz.prog 9 con_check_Local := conP_sound (calU sp_check_Local [] 40 1048576 8 9) false (by rfl) (by rfl) (fun x r e => (evGX_eq _ _ _ _ _ _ _).trans ((raw_check_Local x.1 x.2.1).trans e)) (.inr fun _ => rfl)
end Go.Proofs.YtmjbedjnojcmfaaGreatDoor.Ex

namespace Go.Proofs.YtmjbedjnojcmfaaGreatDoor.Ex
open Go.Proofs Go.Proofs.YtmjbedjnojcmfaaGreatDoor
set_option maxRecDepth 100000
set_option maxHeartbeats 2000000
set_option linter.unusedVariables false
set_option linter.unusedSimpArgs false
def ash_check_Global : List Sh := [.dat tPg, .dat .str]
def kp_check_Global_47_0 : Nat → List Nat := fun c => bif c.beq 0 then [0, 1, 7, 8] else [4]
noncomputable def sp_check_Global : List Con := []
def s_check_Global_47_0_0 : StS := ⟨[(0, .sl tGb), (1, .clo 48 [] [.ptr 1 0]), (7, .int .i64), (8, .int .i64)], [(1, .box [.str]), (0, .box [.sl tGb, .sl tGb, .sl .str, .sl tTh])], 2⟩
def x_check_Global_47_0_0_0 : StS := ⟨[(4, .undef)], [(1, .box [.str]), (0, .box [.sl tGb, .sl tGb, .sl .str, .sl tTh])], 2⟩
def x_check_Global_47_0_0_1 : StS := ⟨[(4, .int .i64)], [(1, .box [.str]), (0, .box [.sl tGb, .sl tGb, .sl .str, .sl tTh])], 2⟩
abbrev X_check_Global_47_0_0 := ((List Gb) × Int × Int × ByteArray × (List Gb) × (List Gb) × (List ByteArray) × (List Th))
def fl_check_Global_47_0_0 (d : StD s_check_Global_47_0_0) : X_check_Global_47_0_0 := (d.1.1, d.1.2.2.1, d.1.2.2.2.1, d.2.1.1, d.2.2.1.1, d.2.2.1.2.1, d.2.2.1.2.2.1, d.2.2.1.2.2.2.1)
def un_check_Global_47_0_0 (x : X_check_Global_47_0_0) : StD s_check_Global_47_0_0 := ((x.1, ((), ((), ())), x.2.1, x.2.2.1, ()), ((x.2.2.2.1, ()), (x.2.2.2.2.1, x.2.2.2.2.2.1, x.2.2.2.2.2.2.1, x.2.2.2.2.2.2.2, ()), ()))
abbrev X_check_Global_47_0_0_0 := (ByteArray × (List Gb) × (List Gb) × (List ByteArray) × (List Th))
def fl_check_Global_47_0_0_0 (d : StD x_check_Global_47_0_0_0) : X_check_Global_47_0_0_0 := (d.2.1.1, d.2.2.1.1, d.2.2.1.2.1, d.2.2.1.2.2.1, d.2.2.1.2.2.2.1)
def un_check_Global_47_0_0_0 (x : X_check_Global_47_0_0_0) : StD x_check_Global_47_0_0_0 := (((), ()), ((x.1, ()), (x.2.1, x.2.2.1, x.2.2.2.1, x.2.2.2.2, ()), ()))
abbrev X_check_Global_47_0_0_1 := (Int × ByteArray × (List Gb) × (List Gb) × (List ByteArray) × (List Th))
def fl_check_Global_47_0_0_1 (d : StD x_check_Global_47_0_0_1) : X_check_Global_47_0_0_1 := (d.1.1, d.2.1.1, d.2.2.1.1, d.2.2.1.2.1, d.2.2.1.2.2.1, d.2.2.1.2.2.2.1)
def un_check_Global_47_0_0_1 (x : X_check_Global_47_0_0_1) : StD x_check_Global_47_0_0_1 := ((x.1, ()), ((x.2.1, ()), (x.2.2.1, x.2.2.2.1, x.2.2.2.2.1, x.2.2.2.2.2, ()), ()))
noncomputable def st_check_Global_47_0_0 (s0 : (List Gb)) (s7 : Int) (s8 : Int) (b1 : ByteArray) (b0 : (List Gb)) (b0_1 : (List Gb)) (b0_2 : (List ByteArray)) (b0_3 : (List Th)) : Option (((List Gb) × Int × Int × ByteArray × (List Gb) × (List Gb) × (List ByteArray) × (List Th)) ⊕ ((ByteArray × (List Gb) × (List Gb) × (List ByteArray) × (List Th)) ⊕ (Int × ByteArray × (List Gb) × (List Gb) × (List ByteArray) × (List Th)))) :=
  bif decide (s8 < s7) then
 bif decide (0 ≤ s8) then
 optC s0[s8.toNat]? none fun d10 ↦
 bif ByteArray.toList d10.1 == b1.toList then some (Sum.inr (Sum.inr (s8, b1, b0, b0_1, b0_2, b0_3)))
 else some (Sum.inl (s0, s7, Go.IntKind.i64.wrap (s8 + 1), b1, b0, b0_1, b0_2, b0_3))
 else none
 else some (Sum.inr (Sum.inl (b1, b0, b0_1, b0_2, b0_3)))
noncomputable def sx_check_Global_47_0_0 (x : X_check_Global_47_0_0) : Option (X_check_Global_47_0_0 ⊕ (X_check_Global_47_0_0_0 ⊕ X_check_Global_47_0_0_1)) := st_check_Global_47_0_0 x.1 x.2.1 x.2.2.1 x.2.2.2.1 x.2.2.2.2.1 x.2.2.2.2.2.1 x.2.2.2.2.2.2.1 x.2.2.2.2.2.2.2
theorem rn_check_Global_47_0_0 (x : X_check_Global_47_0_0) : rdX (cxU sp_check_Global [] 40 1048576) keeps 8 ⟨47, 19, keeps 47, 2⟩ 0 (bodyX 47 0) 2 kp_check_Global_47_0 (sT s_check_Global_47_0_0 (un_check_Global_47_0_0 x)) (sH s_check_Global_47_0_0 (un_check_Global_47_0_0 x)) (rdO (fun T h => (rdS s_check_Global_47_0_0 T h).map fl_check_Global_47_0_0) (getOr (getE 2 x_check_Global_47_0_0_0 fl_check_Global_47_0_0_0) (getE 1 x_check_Global_47_0_0_1 fl_check_Global_47_0_0_1))) = sx_check_Global_47_0_0 x := by kernel_rfl
noncomputable def L_check_Global_47_0_0 (x : X_check_Global_47_0_0) : Option (X_check_Global_47_0_0_0 ⊕ X_check_Global_47_0_0_1) := iterO (fun x => st_check_Global_47_0_0 x.1 x.2.1 x.2.2.1 x.2.2.2.1 x.2.2.2.2.1 x.2.2.2.2.2.1 x.2.2.2.2.2.2.1 x.2.2.2.2.2.2.2) FUEL x
noncomputable def q_check_Global_47_0 : Nat → Tm → Prog (Nat × Tm) := (varP 2 (fun T h => (rdS s_check_Global_47_0_0 T h).map fl_check_Global_47_0_0) L_check_Global_47_0_0 (fun y => .alt y (altE 2 x_check_Global_47_0_0_0 un_check_Global_47_0_0_0) (altE 1 x_check_Global_47_0_0_1 un_check_Global_47_0_0_1)) (fun _ _ => .fail))
noncomputable def lc_check_Global_47_0 : Lpc := ⟨47, 0, 19, (fun base T => .norm base (kp_check_Global_47_0 0) T (q_check_Global_47_0 base)), by kernel_rfl, by kernel_rfl, (loopU sp_check_Global [] 40 1048576 8 (keep := kp_check_Global_47_0) (q := q_check_Global_47_0) (by kernel_rfl) (varX_ok (s := s_check_Global_47_0_0) (un := un_check_Global_47_0_0) (by rfl) (fun _ => rfl) (getOr_ok (getE_ok (s := x_check_Global_47_0_0_0) (un := un_check_Global_47_0_0_0) (by rfl) (fun _ => rfl)) (getE_ok (s := x_check_Global_47_0_0_1) (un := un_check_Global_47_0_0_1) (by rfl) (fun _ => rfl))) (step := sx_check_Global_47_0_0) rn_check_Global_47_0_0 (fun _ _ e => ⟨_, e⟩) (altOr_ok (altE_ok 2 x_check_Global_47_0_0_0 un_check_Global_47_0_0_0) (altE_ok 1 x_check_Global_47_0_0_1 un_check_Global_47_0_0_1)) (VarOk.fail _ _)))⟩
noncomputable def g_check_Global (a0 : Pg) (a1 : ByteArray) : Option Int :=
  optC (L_check_Global_47_0_0 (a0.1, (↑(List.length a0.1) : Int), 0, a1, a0)) none fun d4 ↦ Sum.elim (fun e5 ↦ some (-1)) (fun e5 ↦ some e5.1) d4
theorem raw_check_Global (a0 : Pg) (a1 : ByteArray) : evGX (cxU sp_check_Global [lc_check_Global_47_0] 40 1048576) keeps 8 13 ash_check_Global (.dat (.int .i64)) ((a0, a1, ()) : (Pg × (ByteArray × Unit))) = g_check_Global a0 a1 := by kernel_rfl
noncomputable def G_check_Global (x : (Pg × (ByteArray × Unit))) : Option Int := g_check_Global x.1 x.2.1
noncomputable def con_check_Global : List AV → Prog AV := conP false ash_check_Global (.dat (.int .i64)) G_check_Global
theorem snd_check_Global : SoundA Tryz.prog 13 con_check_Global := conP_sound (calU sp_check_Global [lc_check_Global_47_0] 40 1048576 8 13) false (by rfl) (by rfl) (fun x r e => (evGX_eq _ _ _ _ _ _ _).trans ((raw_check_Global x.1 x.2.1).trans e)) (.inr fun _ => rfl)
end Go.Proofs.YtmjbedjnojcmfaaGreatDoor.Ex

namespace Go.Proofs.YtmjbedjnojcmfaaGreatDoor.Ex
open Go.Proofs Go.Proofs.YtmjbedjnojcmfaaGreatDoor
set_option maxRecDepth 100000
set_option maxHeartbeats 2000000
set_option linter.unusedVariables false
set_option linter.unusedSimpArgs false
def ash_check_scope_isVar : List Sh := [.dat (.st (.pair tPg tTh)), .dat .str]
noncomputable def sp_check_scope_isVar : List Con := [⟨9, con_check_Local, snd_check_Local⟩, ⟨13, con_check_Global, snd_check_Global⟩]
noncomputable def g_check_scope_isVar (a0 : (Pg × Th)) (a1 : ByteArray) : Option Bool :=
  optC (G_check_Local (a0.2, a1, ())) none fun d3 ↦
 bif decide (d3 ≥ 0) then some true else optC (G_check_Global (a0.1, a1, ())) none fun d4 ↦ some (decide (d4 ≥ 0))
theorem raw_check_scope_isVar (a0 : (Pg × Th)) (a1 : ByteArray) : evGX (cxU sp_check_scope_isVar [] 40 1048576) keeps 8 93 ash_check_scope_isVar (.dat .bool) ((a0, a1, ()) : ((Pg × Th) × (ByteArray × Unit))) = g_check_scope_isVar a0 a1 := by kernel_rfl
noncomputable def G_check_scope_isVar (x : ((Pg × Th) × (ByteArray × Unit))) : Option Bool := g_check_scope_isVar x.1 x.2.1
noncomputable def con_check_scope_isVar : List AV → Prog AV := conP true ash_check_scope_isVar (.dat .bool) G_check_scope_isVar
theorem snd_check_scope_isVar : SoundA Tryz.prog 93 con_check_scope_isVar := conP_sound (calU sp_check_scope_isVar [] 40 1048576 8 93) true (by rfl) (by rfl) (fun x r e => (evGX_eq _ _ _ _ _ _ _).trans ((raw_check_scope_isVar x.1 x.2.1).trans e)) (.inl rfl)
end Go.Proofs.YtmjbedjnojcmfaaGreatDoor.Ex

namespace Go.Proofs.YtmjbedjnojcmfaaGreatDoor.Ex
open Go.Proofs Go.Proofs.YtmjbedjnojcmfaaGreatDoor
set_option maxRecDepth 100000
set_option maxHeartbeats 2000000
set_option linter.unusedVariables false
set_option linter.unusedSimpArgs false
def ash_check_Array : List Sh := [.dat tPg, .dat .str]
def kp_check_Array_49_0 : Nat → List Nat := fun c => bif c.beq 0 then [0, 1, 7, 8] else [4]
noncomputable def sp_check_Array : List Con := []
def s_check_Array_49_0_0 : StS := ⟨[(0, .sl tGb), (1, .clo 50 [] [.ptr 1 0]), (7, .int .i64), (8, .int .i64)], [(1, .box [.str]), (0, .box [.sl tGb, .sl tGb, .sl .str, .sl tTh])], 2⟩
def x_check_Array_49_0_0_0 : StS := ⟨[(4, .undef)], [(1, .box [.str]), (0, .box [.sl tGb, .sl tGb, .sl .str, .sl tTh])], 2⟩
def x_check_Array_49_0_0_1 : StS := ⟨[(4, .int .i64)], [(1, .box [.str]), (0, .box [.sl tGb, .sl tGb, .sl .str, .sl tTh])], 2⟩
abbrev X_check_Array_49_0_0 := ((List Gb) × Int × Int × ByteArray × (List Gb) × (List Gb) × (List ByteArray) × (List Th))
def fl_check_Array_49_0_0 (d : StD s_check_Array_49_0_0) : X_check_Array_49_0_0 := (d.1.1, d.1.2.2.1, d.1.2.2.2.1, d.2.1.1, d.2.2.1.1, d.2.2.1.2.1, d.2.2.1.2.2.1, d.2.2.1.2.2.2.1)
def un_check_Array_49_0_0 (x : X_check_Array_49_0_0) : StD s_check_Array_49_0_0 := ((x.1, ((), ((), ())), x.2.1, x.2.2.1, ()), ((x.2.2.2.1, ()), (x.2.2.2.2.1, x.2.2.2.2.2.1, x.2.2.2.2.2.2.1, x.2.2.2.2.2.2.2, ()), ()))
abbrev X_check_Array_49_0_0_0 := (ByteArray × (List Gb) × (List Gb) × (List ByteArray) × (List Th))
def fl_check_Array_49_0_0_0 (d : StD x_check_Array_49_0_0_0) : X_check_Array_49_0_0_0 := (d.2.1.1, d.2.2.1.1, d.2.2.1.2.1, d.2.2.1.2.2.1, d.2.2.1.2.2.2.1)
def un_check_Array_49_0_0_0 (x : X_check_Array_49_0_0_0) : StD x_check_Array_49_0_0_0 := (((), ()), ((x.1, ()), (x.2.1, x.2.2.1, x.2.2.2.1, x.2.2.2.2, ()), ()))
abbrev X_check_Array_49_0_0_1 := (Int × ByteArray × (List Gb) × (List Gb) × (List ByteArray) × (List Th))
def fl_check_Array_49_0_0_1 (d : StD x_check_Array_49_0_0_1) : X_check_Array_49_0_0_1 := (d.1.1, d.2.1.1, d.2.2.1.1, d.2.2.1.2.1, d.2.2.1.2.2.1, d.2.2.1.2.2.2.1)
def un_check_Array_49_0_0_1 (x : X_check_Array_49_0_0_1) : StD x_check_Array_49_0_0_1 := ((x.1, ()), ((x.2.1, ()), (x.2.2.1, x.2.2.2.1, x.2.2.2.2.1, x.2.2.2.2.2, ()), ()))
noncomputable def st_check_Array_49_0_0 (s0 : (List Gb)) (s7 : Int) (s8 : Int) (b1 : ByteArray) (b0 : (List Gb)) (b0_1 : (List Gb)) (b0_2 : (List ByteArray)) (b0_3 : (List Th)) : Option (((List Gb) × Int × Int × ByteArray × (List Gb) × (List Gb) × (List ByteArray) × (List Th)) ⊕ ((ByteArray × (List Gb) × (List Gb) × (List ByteArray) × (List Th)) ⊕ (Int × ByteArray × (List Gb) × (List Gb) × (List ByteArray) × (List Th)))) :=
  bif decide (s8 < s7) then
 bif decide (0 ≤ s8) then
 optC s0[s8.toNat]? none fun d10 ↦
 bif ByteArray.toList d10.1 == b1.toList then some (Sum.inr (Sum.inr (s8, b1, b0, b0_1, b0_2, b0_3)))
 else some (Sum.inl (s0, s7, Go.IntKind.i64.wrap (s8 + 1), b1, b0, b0_1, b0_2, b0_3))
 else none
 else some (Sum.inr (Sum.inl (b1, b0, b0_1, b0_2, b0_3)))
noncomputable def sx_check_Array_49_0_0 (x : X_check_Array_49_0_0) : Option (X_check_Array_49_0_0 ⊕ (X_check_Array_49_0_0_0 ⊕ X_check_Array_49_0_0_1)) := st_check_Array_49_0_0 x.1 x.2.1 x.2.2.1 x.2.2.2.1 x.2.2.2.2.1 x.2.2.2.2.2.1 x.2.2.2.2.2.2.1 x.2.2.2.2.2.2.2
theorem rn_check_Array_49_0_0 (x : X_check_Array_49_0_0) : rdX (cxU sp_check_Array [] 40 1048576) keeps 8 ⟨49, 19, keeps 49, 2⟩ 0 (bodyX 49 0) 2 kp_check_Array_49_0 (sT s_check_Array_49_0_0 (un_check_Array_49_0_0 x)) (sH s_check_Array_49_0_0 (un_check_Array_49_0_0 x)) (rdO (fun T h => (rdS s_check_Array_49_0_0 T h).map fl_check_Array_49_0_0) (getOr (getE 2 x_check_Array_49_0_0_0 fl_check_Array_49_0_0_0) (getE 1 x_check_Array_49_0_0_1 fl_check_Array_49_0_0_1))) = sx_check_Array_49_0_0 x := by kernel_rfl
noncomputable def L_check_Array_49_0_0 (x : X_check_Array_49_0_0) : Option (X_check_Array_49_0_0_0 ⊕ X_check_Array_49_0_0_1) := iterO (fun x => st_check_Array_49_0_0 x.1 x.2.1 x.2.2.1 x.2.2.2.1 x.2.2.2.2.1 x.2.2.2.2.2.1 x.2.2.2.2.2.2.1 x.2.2.2.2.2.2.2) FUEL x
noncomputable def q_check_Array_49_0 : Nat → Tm → Prog (Nat × Tm) := (varP 2 (fun T h => (rdS s_check_Array_49_0_0 T h).map fl_check_Array_49_0_0) L_check_Array_49_0_0 (fun y => .alt y (altE 2 x_check_Array_49_0_0_0 un_check_Array_49_0_0_0) (altE 1 x_check_Array_49_0_0_1 un_check_Array_49_0_0_1)) (fun _ _ => .fail))
noncomputable def lc_check_Array_49_0 : Lpc := ⟨49, 0, 19, (fun base T => .norm base (kp_check_Array_49_0 0) T (q_check_Array_49_0 base)), by kernel_rfl, by kernel_rfl, (loopU sp_check_Array [] 40 1048576 8 (keep := kp_check_Array_49_0) (q := q_check_Array_49_0) (by kernel_rfl) (varX_ok (s := s_check_Array_49_0_0) (un := un_check_Array_49_0_0) (by rfl) (fun _ => rfl) (getOr_ok (getE_ok (s := x_check_Array_49_0_0_0) (un := un_check_Array_49_0_0_0) (by rfl) (fun _ => rfl)) (getE_ok (s := x_check_Array_49_0_0_1) (un := un_check_Array_49_0_0_1) (by rfl) (fun _ => rfl))) (step := sx_check_Array_49_0_0) rn_check_Array_49_0_0 (fun _ _ e => ⟨_, e⟩) (altOr_ok (altE_ok 2 x_check_Array_49_0_0_0 un_check_Array_49_0_0_0) (altE_ok 1 x_check_Array_49_0_0_1 un_check_Array_49_0_0_1)) (VarOk.fail _ _)))⟩
noncomputable def g_check_Array (a0 : Pg) (a1 : ByteArray) : Option Int :=
  optC (L_check_Array_49_0_0 (a0.2.1, (↑(List.length a0.2.1) : Int), 0, a1, a0)) none fun d4 ↦ Sum.elim (fun e5 ↦ some (-1)) (fun e5 ↦ some e5.1) d4
theorem raw_check_Array (a0 : Pg) (a1 : ByteArray) : evGX (cxU sp_check_Array [lc_check_Array_49_0] 40 1048576) keeps 8 15 ash_check_Array (.dat (.int .i64)) ((a0, a1, ()) : (Pg × (ByteArray × Unit))) = g_check_Array a0 a1 := by kernel_rfl
noncomputable def G_check_Array (x : (Pg × (ByteArray × Unit))) : Option Int := g_check_Array x.1 x.2.1
noncomputable def con_check_Array : List AV → Prog AV := conP false ash_check_Array (.dat (.int .i64)) G_check_Array
theorem snd_check_Array : SoundA Tryz.prog 15 con_check_Array := conP_sound (calU sp_check_Array [lc_check_Array_49_0] 40 1048576 8 15) false (by rfl) (by rfl) (fun x r e => (evGX_eq _ _ _ _ _ _ _).trans ((raw_check_Array x.1 x.2.1).trans e)) (.inr fun _ => rfl)
end Go.Proofs.YtmjbedjnojcmfaaGreatDoor.Ex

namespace Go.Proofs.YtmjbedjnojcmfaaGreatDoor.Ex
open Go.Proofs Go.Proofs.YtmjbedjnojcmfaaGreatDoor
set_option maxRecDepth 100000
set_option maxHeartbeats 2000000
set_option linter.unusedVariables false
set_option linter.unusedSimpArgs false
def ash_check_scope_expr : List Sh := [.dat (.st (.pair tPg tTh)), .dat tX]
def kp_check_scope_expr_185_0 : Nat → List Nat := fun c => bif c.beq 0 then [0, 1, 7, 8] else [4]
class Rec_check_scope_expr where
  K : ((Pg × Th) × (Xp × Unit)) → Option Bool
  s : SoundA Tryz.prog 94 (conP true ash_check_scope_expr (.dat .bool) K)
section
variable [Rec_check_scope_expr]
noncomputable def sp_check_scope_expr : List Con := [⟨93, con_check_scope_isVar, snd_check_scope_isVar⟩, ⟨15, con_check_Array, snd_check_Array⟩, ⟨94, (conP true ash_check_scope_expr (.dat .bool) Rec_check_scope_expr.K), Rec_check_scope_expr.s⟩]
def s_check_scope_expr_185_0_0 : StS := ⟨[(0, .sl (.mu 0)), (1, .clo 163 [] [.ptr 2 0]), (7, .int .i64), (8, .int .i64)], [(2, .box [.clo 94 [.agg [.sl tGb, .sl tGb, .sl .str, .sl tTh, .str, .sl .str, .sl (.mu 2)]] []]), (1, .box [.int .i64, .int .i64, .int .i64, .str, .sl (.mu 0)]), (0, .box [.sl tGb, .sl tGb, .sl .str, .sl tTh, .str, .sl .str, .sl (.mu 2)])], 3⟩
def x_check_scope_expr_185_0_0_0 : StS := ⟨[(4, .undef)], [(2, .box [.clo 94 [.agg [.sl tGb, .sl tGb, .sl .str, .sl tTh, .str, .sl .str, .sl (.mu 2)]] []]), (1, .box [.int .i64, .int .i64, .int .i64, .str, .sl (.mu 0)]), (0, .box [.sl tGb, .sl tGb, .sl .str, .sl tTh, .str, .sl .str, .sl (.mu 2)])], 3⟩
def x_check_scope_expr_185_0_0_1 : StS := ⟨[(4, .int .i64)], [(2, .box [.clo 94 [.agg [.sl tGb, .sl tGb, .sl .str, .sl tTh, .str, .sl .str, .sl (.mu 2)]] []]), (1, .box [.int .i64, .int .i64, .int .i64, .str, .sl (.mu 0)]), (0, .box [.sl tGb, .sl tGb, .sl .str, .sl tTh, .str, .sl .str, .sl (.mu 2)])], 3⟩
abbrev X_check_scope_expr_185_0_0 := ((List (RT.C 0)) × Int × Int × (List Gb) × (List Gb) × (List ByteArray) × (List Th) × ByteArray × (List ByteArray) × (List (RT.C 2)) × Int × Int × Int × ByteArray × (List (RT.C 0)) × (List Gb) × (List Gb) × (List ByteArray) × (List Th) × ByteArray × (List ByteArray) × (List (RT.C 2)))
def fl_check_scope_expr_185_0_0 (d : StD s_check_scope_expr_185_0_0) : X_check_scope_expr_185_0_0 := (d.1.1, d.1.2.2.1, d.1.2.2.2.1, d.2.1.1.1.1.1, d.2.1.1.1.1.2.1, d.2.1.1.1.1.2.2.1, d.2.1.1.1.1.2.2.2.1, d.2.1.1.1.1.2.2.2.2.1, d.2.1.1.1.1.2.2.2.2.2.1, d.2.1.1.1.1.2.2.2.2.2.2.1, d.2.2.1.1, d.2.2.1.2.1, d.2.2.1.2.2.1, d.2.2.1.2.2.2.1, d.2.2.1.2.2.2.2.1, d.2.2.2.1.1, d.2.2.2.1.2.1, d.2.2.2.1.2.2.1, d.2.2.2.1.2.2.2.1, d.2.2.2.1.2.2.2.2.1, d.2.2.2.1.2.2.2.2.2.1, d.2.2.2.1.2.2.2.2.2.2.1)
def un_check_scope_expr_185_0_0 (x : X_check_scope_expr_185_0_0) : StD s_check_scope_expr_185_0_0 := ((x.1, ((), ((), ())), x.2.1, x.2.2.1, ()), (((((x.2.2.2.1, x.2.2.2.2.1, x.2.2.2.2.2.1, x.2.2.2.2.2.2.1, x.2.2.2.2.2.2.2.1, x.2.2.2.2.2.2.2.2.1, x.2.2.2.2.2.2.2.2.2.1, ()), ()), ()), ()), (x.2.2.2.2.2.2.2.2.2.2.1, x.2.2.2.2.2.2.2.2.2.2.2.1, x.2.2.2.2.2.2.2.2.2.2.2.2.1, x.2.2.2.2.2.2.2.2.2.2.2.2.2.1, x.2.2.2.2.2.2.2.2.2.2.2.2.2.2.1, ()), (x.2.2.2.2.2.2.2.2.2.2.2.2.2.2.2.1, x.2.2.2.2.2.2.2.2.2.2.2.2.2.2.2.2.1, x.2.2.2.2.2.2.2.2.2.2.2.2.2.2.2.2.2.1, x.2.2.2.2.2.2.2.2.2.2.2.2.2.2.2.2.2.2.1, x.2.2.2.2.2.2.2.2.2.2.2.2.2.2.2.2.2.2.2.1, x.2.2.2.2.2.2.2.2.2.2.2.2.2.2.2.2.2.2.2.2.1, x.2.2.2.2.2.2.2.2.2.2.2.2.2.2.2.2.2.2.2.2.2, ()), ()))
abbrev X_check_scope_expr_185_0_0_0 := ((List Gb) × (List Gb) × (List ByteArray) × (List Th) × ByteArray × (List ByteArray) × (List (RT.C 2)) × Int × Int × Int × ByteArray × (List (RT.C 0)) × (List Gb) × (List Gb) × (List ByteArray) × (List Th) × ByteArray × (List ByteArray) × (List (RT.C 2)))
def fl_check_scope_expr_185_0_0_0 (d : StD x_check_scope_expr_185_0_0_0) : X_check_scope_expr_185_0_0_0 := (d.2.1.1.1.1.1, d.2.1.1.1.1.2.1, d.2.1.1.1.1.2.2.1, d.2.1.1.1.1.2.2.2.1, d.2.1.1.1.1.2.2.2.2.1, d.2.1.1.1.1.2.2.2.2.2.1, d.2.1.1.1.1.2.2.2.2.2.2.1, d.2.2.1.1, d.2.2.1.2.1, d.2.2.1.2.2.1, d.2.2.1.2.2.2.1, d.2.2.1.2.2.2.2.1, d.2.2.2.1.1, d.2.2.2.1.2.1, d.2.2.2.1.2.2.1, d.2.2.2.1.2.2.2.1, d.2.2.2.1.2.2.2.2.1, d.2.2.2.1.2.2.2.2.2.1, d.2.2.2.1.2.2.2.2.2.2.1)
def un_check_scope_expr_185_0_0_0 (x : X_check_scope_expr_185_0_0_0) : StD x_check_scope_expr_185_0_0_0 := (((), ()), (((((x.1, x.2.1, x.2.2.1, x.2.2.2.1, x.2.2.2.2.1, x.2.2.2.2.2.1, x.2.2.2.2.2.2.1, ()), ()), ()), ()), (x.2.2.2.2.2.2.2.1, x.2.2.2.2.2.2.2.2.1, x.2.2.2.2.2.2.2.2.2.1, x.2.2.2.2.2.2.2.2.2.2.1, x.2.2.2.2.2.2.2.2.2.2.2.1, ()), (x.2.2.2.2.2.2.2.2.2.2.2.2.1, x.2.2.2.2.2.2.2.2.2.2.2.2.2.1, x.2.2.2.2.2.2.2.2.2.2.2.2.2.2.1, x.2.2.2.2.2.2.2.2.2.2.2.2.2.2.2.1, x.2.2.2.2.2.2.2.2.2.2.2.2.2.2.2.2.1, x.2.2.2.2.2.2.2.2.2.2.2.2.2.2.2.2.2.1, x.2.2.2.2.2.2.2.2.2.2.2.2.2.2.2.2.2.2, ()), ()))
abbrev X_check_scope_expr_185_0_0_1 := (Int × (List Gb) × (List Gb) × (List ByteArray) × (List Th) × ByteArray × (List ByteArray) × (List (RT.C 2)) × Int × Int × Int × ByteArray × (List (RT.C 0)) × (List Gb) × (List Gb) × (List ByteArray) × (List Th) × ByteArray × (List ByteArray) × (List (RT.C 2)))
def fl_check_scope_expr_185_0_0_1 (d : StD x_check_scope_expr_185_0_0_1) : X_check_scope_expr_185_0_0_1 := (d.1.1, d.2.1.1.1.1.1, d.2.1.1.1.1.2.1, d.2.1.1.1.1.2.2.1, d.2.1.1.1.1.2.2.2.1, d.2.1.1.1.1.2.2.2.2.1, d.2.1.1.1.1.2.2.2.2.2.1, d.2.1.1.1.1.2.2.2.2.2.2.1, d.2.2.1.1, d.2.2.1.2.1, d.2.2.1.2.2.1, d.2.2.1.2.2.2.1, d.2.2.1.2.2.2.2.1, d.2.2.2.1.1, d.2.2.2.1.2.1, d.2.2.2.1.2.2.1, d.2.2.2.1.2.2.2.1, d.2.2.2.1.2.2.2.2.1, d.2.2.2.1.2.2.2.2.2.1, d.2.2.2.1.2.2.2.2.2.2.1)
def un_check_scope_expr_185_0_0_1 (x : X_check_scope_expr_185_0_0_1) : StD x_check_scope_expr_185_0_0_1 := ((x.1, ()), (((((x.2.1, x.2.2.1, x.2.2.2.1, x.2.2.2.2.1, x.2.2.2.2.2.1, x.2.2.2.2.2.2.1, x.2.2.2.2.2.2.2.1, ()), ()), ()), ()), (x.2.2.2.2.2.2.2.2.1, x.2.2.2.2.2.2.2.2.2.1, x.2.2.2.2.2.2.2.2.2.2.1, x.2.2.2.2.2.2.2.2.2.2.2.1, x.2.2.2.2.2.2.2.2.2.2.2.2.1, ()), (x.2.2.2.2.2.2.2.2.2.2.2.2.2.1, x.2.2.2.2.2.2.2.2.2.2.2.2.2.2.1, x.2.2.2.2.2.2.2.2.2.2.2.2.2.2.2.1, x.2.2.2.2.2.2.2.2.2.2.2.2.2.2.2.2.1, x.2.2.2.2.2.2.2.2.2.2.2.2.2.2.2.2.2.1, x.2.2.2.2.2.2.2.2.2.2.2.2.2.2.2.2.2.2.1, x.2.2.2.2.2.2.2.2.2.2.2.2.2.2.2.2.2.2.2, ()), ()))
noncomputable def st_check_scope_expr_185_0_0 (s0 : (List (RT.C 0))) (s7 : Int) (s8 : Int) (b2 : (List Gb)) (b2_1 : (List Gb)) (b2_2 : (List ByteArray)) (b2_3 : (List Th)) (b2_4 : ByteArray) (b2_5 : (List ByteArray)) (b2_6 : (List (RT.C 2))) (b1 : Int) (b1_1 : Int) (b1_2 : Int) (b1_3 : ByteArray) (b1_4 : (List (RT.C 0))) (b0 : (List Gb)) (b0_1 : (List Gb)) (b0_2 : (List ByteArray)) (b0_3 : (List Th)) (b0_4 : ByteArray) (b0_5 : (List ByteArray)) (b0_6 : (List (RT.C 2))) : Option (((List (RT.C 0)) × Int × Int × (List Gb) × (List Gb) × (List ByteArray) × (List Th) × ByteArray × (List ByteArray) × (List (RT.C 2)) × Int × Int × Int × ByteArray × (List (RT.C 0)) × (List Gb) × (List Gb) × (List ByteArray) × (List Th) × ByteArray × (List ByteArray) × (List (RT.C 2))) ⊕ (((List Gb) × (List Gb) × (List ByteArray) × (List Th) × ByteArray × (List ByteArray) × (List (RT.C 2)) × Int × Int × Int × ByteArray × (List (RT.C 0)) × (List Gb) × (List Gb) × (List ByteArray) × (List Th) × ByteArray × (List ByteArray) × (List (RT.C 2))) ⊕ (Int × (List Gb) × (List Gb) × (List ByteArray) × (List Th) × ByteArray × (List ByteArray) × (List (RT.C 2)) × Int × Int × Int × ByteArray × (List (RT.C 0)) × (List Gb) × (List Gb) × (List ByteArray) × (List Th) × ByteArray × (List ByteArray) × (List (RT.C 2))))) :=
  bif decide (s8 < s7) then
 bif decide (0 ≤ s8) then
 optC s0[s8.toNat]? none fun d25 ↦
 optC (Rec_check_scope_expr.K (((b2, b2_1, b2_2, b2_3), b2_4, b2_5, b2_6), uT0 d25, ())) none fun d26 ↦
 bif !d26 then some (Sum.inr (Sum.inr (s8, b2, b2_1, b2_2, b2_3, b2_4, b2_5, b2_6, b1, b1_1, b1_2, b1_3, b1_4, b0, b0_1, b0_2, b0_3, b0_4, b0_5, b0_6)))
 else some (Sum.inl (s0, s7, Go.IntKind.i64.wrap (s8 + 1), b2, b2_1, b2_2, b2_3, b2_4, b2_5, b2_6, b1, b1_1, b1_2, b1_3, b1_4, b0, b0_1, b0_2, b0_3, b0_4, b0_5, b0_6))
 else none
 else some (Sum.inr (Sum.inl (b2, b2_1, b2_2, b2_3, b2_4, b2_5, b2_6, b1, b1_1, b1_2, b1_3, b1_4, b0, b0_1, b0_2, b0_3, b0_4, b0_5, b0_6)))
noncomputable def sx_check_scope_expr_185_0_0 (x : X_check_scope_expr_185_0_0) : Option (X_check_scope_expr_185_0_0 ⊕ (X_check_scope_expr_185_0_0_0 ⊕ X_check_scope_expr_185_0_0_1)) := st_check_scope_expr_185_0_0 x.1 x.2.1 x.2.2.1 x.2.2.2.1 x.2.2.2.2.1 x.2.2.2.2.2.1 x.2.2.2.2.2.2.1 x.2.2.2.2.2.2.2.1 x.2.2.2.2.2.2.2.2.1 x.2.2.2.2.2.2.2.2.2.1 x.2.2.2.2.2.2.2.2.2.2.1 x.2.2.2.2.2.2.2.2.2.2.2.1 x.2.2.2.2.2.2.2.2.2.2.2.2.1 x.2.2.2.2.2.2.2.2.2.2.2.2.2.1 x.2.2.2.2.2.2.2.2.2.2.2.2.2.2.1 x.2.2.2.2.2.2.2.2.2.2.2.2.2.2.2.1 x.2.2.2.2.2.2.2.2.2.2.2.2.2.2.2.2.1 x.2.2.2.2.2.2.2.2.2.2.2.2.2.2.2.2.2.1 x.2.2.2.2.2.2.2.2.2.2.2.2.2.2.2.2.2.2.1 x.2.2.2.2.2.2.2.2.2.2.2.2.2.2.2.2.2.2.2.1 x.2.2.2.2.2.2.2.2.2.2.2.2.2.2.2.2.2.2.2.2.1 x.2.2.2.2.2.2.2.2.2.2.2.2.2.2.2.2.2.2.2.2.2
theorem rn_check_scope_expr_185_0_0 (x : X_check_scope_expr_185_0_0) : rdX (cxU sp_check_scope_expr [] 40 (1048576 ^ 9)) keeps 8 ⟨185, 19, keeps 185, 3⟩ 0 (bodyX 185 0) 3 kp_check_scope_expr_185_0 (sT s_check_scope_expr_185_0_0 (un_check_scope_expr_185_0_0 x)) (sH s_check_scope_expr_185_0_0 (un_check_scope_expr_185_0_0 x)) (rdO (fun T h => (rdS s_check_scope_expr_185_0_0 T h).map fl_check_scope_expr_185_0_0) (getOr (getE 2 x_check_scope_expr_185_0_0_0 fl_check_scope_expr_185_0_0_0) (getE 1 x_check_scope_expr_185_0_0_1 fl_check_scope_expr_185_0_0_1))) = sx_check_scope_expr_185_0_0 x := by kernel_rfl
noncomputable def L_check_scope_expr_185_0_0 (x : X_check_scope_expr_185_0_0) : Option (X_check_scope_expr_185_0_0_0 ⊕ X_check_scope_expr_185_0_0_1) := iterO (fun x => st_check_scope_expr_185_0_0 x.1 x.2.1 x.2.2.1 x.2.2.2.1 x.2.2.2.2.1 x.2.2.2.2.2.1 x.2.2.2.2.2.2.1 x.2.2.2.2.2.2.2.1 x.2.2.2.2.2.2.2.2.1 x.2.2.2.2.2.2.2.2.2.1 x.2.2.2.2.2.2.2.2.2.2.1 x.2.2.2.2.2.2.2.2.2.2.2.1 x.2.2.2.2.2.2.2.2.2.2.2.2.1 x.2.2.2.2.2.2.2.2.2.2.2.2.2.1 x.2.2.2.2.2.2.2.2.2.2.2.2.2.2.1 x.2.2.2.2.2.2.2.2.2.2.2.2.2.2.2.1 x.2.2.2.2.2.2.2.2.2.2.2.2.2.2.2.2.1 x.2.2.2.2.2.2.2.2.2.2.2.2.2.2.2.2.2.1 x.2.2.2.2.2.2.2.2.2.2.2.2.2.2.2.2.2.2.1 x.2.2.2.2.2.2.2.2.2.2.2.2.2.2.2.2.2.2.2.1 x.2.2.2.2.2.2.2.2.2.2.2.2.2.2.2.2.2.2.2.2.1 x.2.2.2.2.2.2.2.2.2.2.2.2.2.2.2.2.2.2.2.2.2) FUEL x
noncomputable def q_check_scope_expr_185_0 : Nat → Tm → Prog (Nat × Tm) := (varP 3 (fun T h => (rdS s_check_scope_expr_185_0_0 T h).map fl_check_scope_expr_185_0_0) L_check_scope_expr_185_0_0 (fun y => .alt y (altE 2 x_check_scope_expr_185_0_0_0 un_check_scope_expr_185_0_0_0) (altE 1 x_check_scope_expr_185_0_0_1 un_check_scope_expr_185_0_0_1)) (fun _ _ => .fail))
noncomputable def lc_check_scope_expr_185_0 : Lpc := ⟨185, 0, 19, (fun base T => .norm base (kp_check_scope_expr_185_0 0) T (q_check_scope_expr_185_0 base)), by kernel_rfl, by kernel_rfl, (loopU sp_check_scope_expr [] 40 (1048576 ^ 9) 8 (keep := kp_check_scope_expr_185_0) (q := q_check_scope_expr_185_0) (by kernel_rfl) (varX_ok (s := s_check_scope_expr_185_0_0) (un := un_check_scope_expr_185_0_0) (by rfl) (fun _ => rfl) (getOr_ok (getE_ok (s := x_check_scope_expr_185_0_0_0) (un := un_check_scope_expr_185_0_0_0) (by rfl) (fun _ => rfl)) (getE_ok (s := x_check_scope_expr_185_0_0_1) (un := un_check_scope_expr_185_0_0_1) (by rfl) (fun _ => rfl))) (step := sx_check_scope_expr_185_0_0) rn_check_scope_expr_185_0_0 (fun _ _ e => ⟨_, e⟩) (altOr_ok (altE_ok 2 x_check_scope_expr_185_0_0_0 un_check_scope_expr_185_0_0_0) (altE_ok 1 x_check_scope_expr_185_0_0_1 un_check_scope_expr_185_0_0_1)) (VarOk.fail _ _)))⟩
noncomputable def g_check_scope_expr (a0 : (Pg × Th)) (a1 : Xp) : Option Bool :=
  bif a1.1 != 2 then
 bif a1.1 != 3 then
 optC
 (L_check_scope_expr_185_0_0
 (a1.2.2.2.2, (↑(List.length a1.2.2.2.2) : Int), 0, a0.1.1, a0.1.2.1, a0.1.2.2.1, a0.1.2.2.2, a0.2.1, a0.2.2.1, a0.2.2.2, a1.1,
 a1.2.1, a1.2.2.1, a1.2.2.2.1, a1.2.2.2.2, a0.1.1, a0.1.2.1, a0.1.2.2.1, a0.1.2.2.2, a0.2))
 none fun d5 ↦ Sum.elim (fun e6 ↦ some !decide (-1 ≥ 0)) (fun e6 ↦ some !decide (e6.1 ≥ 0)) d5
 else
 optC (G_check_Array (a0.1, a1.2.2.2.1, ())) none fun d5 ↦
 bif decide (d5 ≥ 0) then
 optC
 (L_check_scope_expr_185_0_0
 (a1.2.2.2.2, (↑(List.length a1.2.2.2.2) : Int), 0, a0.1.1, a0.1.2.1, a0.1.2.2.1, a0.1.2.2.2, a0.2.1, a0.2.2.1, a0.2.2.2, a1.1,
 a1.2.1, a1.2.2.1, a1.2.2.2.1, a1.2.2.2.2, a0.1.1, a0.1.2.1, a0.1.2.2.1, a0.1.2.2.2, a0.2))
 none fun d6 ↦ Sum.elim (fun e7 ↦ some !decide (-1 ≥ 0)) (fun e7 ↦ some !decide (e7.1 ≥ 0)) d6
 else some false
 else
 optC (G_check_scope_isVar (a0, a1.2.2.2.1, ())) none fun d5 ↦
 bif d5 then
 bif a1.1 != 3 then
 optC
 (L_check_scope_expr_185_0_0
 (a1.2.2.2.2, (↑(List.length a1.2.2.2.2) : Int), 0, a0.1.1, a0.1.2.1, a0.1.2.2.1, a0.1.2.2.2, a0.2.1, a0.2.2.1, a0.2.2.2, a1.1,
 a1.2.1, a1.2.2.1, a1.2.2.2.1, a1.2.2.2.2, a0.1.1, a0.1.2.1, a0.1.2.2.1, a0.1.2.2.2, a0.2))
 none fun d6 ↦ Sum.elim (fun e7 ↦ some !decide (-1 ≥ 0)) (fun e7 ↦ some !decide (e7.1 ≥ 0)) d6
 else
 optC (G_check_Array (a0.1, a1.2.2.2.1, ())) none fun d6 ↦
 bif decide (d6 ≥ 0) then
 optC
 (L_check_scope_expr_185_0_0
 (a1.2.2.2.2, (↑(List.length a1.2.2.2.2) : Int), 0, a0.1.1, a0.1.2.1, a0.1.2.2.1, a0.1.2.2.2, a0.2.1, a0.2.2.1, a0.2.2.2,
 a1.1, a1.2.1, a1.2.2.1, a1.2.2.2.1, a1.2.2.2.2, a0.1.1, a0.1.2.1, a0.1.2.2.1, a0.1.2.2.2, a0.2))
 none fun d7 ↦ Sum.elim (fun e8 ↦ some !decide (-1 ≥ 0)) (fun e8 ↦ some !decide (e8.1 ≥ 0)) d7
 else some false
 else some false
theorem raw_check_scope_expr (a0 : (Pg × Th)) (a1 : Xp) : evGX1 (cxU sp_check_scope_expr [lc_check_scope_expr_185_0] 40 (1048576 ^ 9)) keeps 8 94 ash_check_scope_expr (.dat .bool) ((a0, a1, ()) : ((Pg × Th) × (Xp × Unit))) = g_check_scope_expr a0 a1 := by kernel_rfl
noncomputable def GI_check_scope_expr (x : ((Pg × Th) × (Xp × Unit))) : Option Bool := g_check_scope_expr x.1 x.2.1
noncomputable def conI_check_scope_expr : List AV → Prog AV := conP true ash_check_scope_expr (.dat .bool) GI_check_scope_expr
theorem sndI_check_scope_expr : SoundA Tryz.prog 94 conI_check_scope_expr := conP_sound (evF1_sound (tabOk_of tab_ok) (cmpsOk_of tab_ok cmps_ok) mixed (inU sp_check_scope_expr [lc_check_scope_expr_185_0] 40 (1048576 ^ 9)) (hspL sp_check_scope_expr) keeps 8 94) true (by rfl) (by rfl) (fun x r e => (evGX1_eq _ _ _ _ _ _ _).trans ((raw_check_scope_expr x.1 x.2.1).trans e)) (.inl rfl)
end
noncomputable def it_check_scope_expr : Nat → {K : ((Pg × Th) × (Xp × Unit)) → Option Bool // SoundA Tryz.prog 94 (conP true ash_check_scope_expr (.dat .bool) K)}
  | 0 => ⟨fun _ => none, conP_none⟩
  | k + 1 => letI : Rec_check_scope_expr := ⟨(it_check_scope_expr k).1, (it_check_scope_expr k).2⟩; ⟨GI_check_scope_expr, sndI_check_scope_expr⟩
noncomputable def G_check_scope_expr (x : ((Pg × Th) × (Xp × Unit))) : Option Bool := (it_check_scope_expr (SizeOf.sizeOf x + 1)).1 x
noncomputable def con_check_scope_expr : List AV → Prog AV := conP true ash_check_scope_expr (.dat .bool) G_check_scope_expr
theorem snd_check_scope_expr : SoundA Tryz.prog 94 con_check_scope_expr := conP_pick (sh := ash_check_scope_expr) (rs := .dat .bool) (n := fun x : ((Pg × Th) × (Xp × Unit)) => SizeOf.sizeOf x + 1) (F := fun k => (it_check_scope_expr k).1) (fun k => (it_check_scope_expr k).2)
end Go.Proofs.YtmjbedjnojcmfaaGreatDoor.Ex

namespace Go.Proofs.YtmjbedjnojcmfaaGreatDoor.Ex
open Go.Proofs Go.Proofs.YtmjbedjnojcmfaaGreatDoor
set_option maxRecDepth 100000
set_option maxHeartbeats 2000000
set_option linter.unusedVariables false
set_option linter.unusedSimpArgs false
def ash_check_Mutex : List Sh := [.dat tPg, .dat .str]
noncomputable def sp_check_Mutex : List Con := [⟨35, con_check_place, snd_check_place⟩]
noncomputable def g_check_Mutex (a0 : Pg) (a1 : ByteArray) : Option Int :=
  optC (G_check_place (a1, a0.2.2.1, ())) none fun d3 ↦ some d3
theorem raw_check_Mutex (a0 : Pg) (a1 : ByteArray) : evGX (cxU sp_check_Mutex [] 40 1048576) keeps 8 17 ash_check_Mutex (.dat (.int .i64)) ((a0, a1, ()) : (Pg × (ByteArray × Unit))) = g_check_Mutex a0 a1 := by kernel_rfl
noncomputable def G_check_Mutex (x : (Pg × (ByteArray × Unit))) : Option Int := g_check_Mutex x.1 x.2.1
noncomputable def con_check_Mutex : List AV → Prog AV := conP false ash_check_Mutex (.dat (.int .i64)) G_check_Mutex
theorem snd_check_Mutex : SoundA Tryz.prog 17 con_check_Mutex := conP_sound (calU sp_check_Mutex [] 40 1048576 8 17) false (by rfl) (by rfl) (fun x r e => (evGX_eq _ _ _ _ _ _ _).trans ((raw_check_Mutex x.1 x.2.1).trans e)) (.inr fun _ => rfl)
end Go.Proofs.YtmjbedjnojcmfaaGreatDoor.Ex

namespace Go.Proofs.YtmjbedjnojcmfaaGreatDoor.Ex
open Go.Proofs Go.Proofs.YtmjbedjnojcmfaaGreatDoor
set_option maxRecDepth 100000
set_option maxHeartbeats 2000000
set_option linter.unusedVariables false
set_option linter.unusedSimpArgs false
def ash_check_scope_cond : List Sh := [.dat (.st (.pair tPg tTh)), .dat tCd]
def kp_check_scope_cond_185_0 : Nat → List Nat := fun c => bif c.beq 0 then [0, 1, 7, 8] else [4]
def kp_check_scope_cond_186_0 : Nat → List Nat := fun c => bif c.beq 0 then [0, 1, 7, 8] else [4]
class Rec_check_scope_cond where
  K : ((Pg × Th) × (Cd × Unit)) → Option Bool
  s : SoundA Tryz.prog 95 (conP true ash_check_scope_cond (.dat .bool) K)
section
variable [Rec_check_scope_cond]
noncomputable def sp_check_scope_cond : List Con := [⟨94, con_check_scope_expr, snd_check_scope_expr⟩, ⟨95, (conP true ash_check_scope_cond (.dat .bool) Rec_check_scope_cond.K), Rec_check_scope_cond.s⟩]
def s_check_scope_cond_185_0_0 : StS := ⟨[(0, .sl (.mu 0)), (1, .clo 163 [] [.ptr 2 0]), (7, .int .i64), (8, .int .i64)], [(2, .box [.clo 94 [.agg [.sl tGb, .sl tGb, .sl .str, .sl tTh, .str, .sl .str, .sl (.mu 2)]] []]), (1, .box [.int .i64, .int .i64, .sl (.mu 0), .sl (.mu 1)]), (0, .box [.sl tGb, .sl tGb, .sl .str, .sl tTh, .str, .sl .str, .sl (.mu 2)])], 3⟩
def x_check_scope_cond_185_0_0_0 : StS := ⟨[(4, .undef)], [(2, .box [.clo 94 [.agg [.sl tGb, .sl tGb, .sl .str, .sl tTh, .str, .sl .str, .sl (.mu 2)]] []]), (1, .box [.int .i64, .int .i64, .sl (.mu 0), .sl (.mu 1)]), (0, .box [.sl tGb, .sl tGb, .sl .str, .sl tTh, .str, .sl .str, .sl (.mu 2)])], 3⟩
def x_check_scope_cond_185_0_0_1 : StS := ⟨[(4, .int .i64)], [(2, .box [.clo 94 [.agg [.sl tGb, .sl tGb, .sl .str, .sl tTh, .str, .sl .str, .sl (.mu 2)]] []]), (1, .box [.int .i64, .int .i64, .sl (.mu 0), .sl (.mu 1)]), (0, .box [.sl tGb, .sl tGb, .sl .str, .sl tTh, .str, .sl .str, .sl (.mu 2)])], 3⟩
abbrev X_check_scope_cond_185_0_0 := ((List (RT.C 0)) × Int × Int × (List Gb) × (List Gb) × (List ByteArray) × (List Th) × ByteArray × (List ByteArray) × (List (RT.C 2)) × Int × Int × (List (RT.C 0)) × (List (RT.C 1)) × (List Gb) × (List Gb) × (List ByteArray) × (List Th) × ByteArray × (List ByteArray) × (List (RT.C 2)))
def fl_check_scope_cond_185_0_0 (d : StD s_check_scope_cond_185_0_0) : X_check_scope_cond_185_0_0 := (d.1.1, d.1.2.2.1, d.1.2.2.2.1, d.2.1.1.1.1.1, d.2.1.1.1.1.2.1, d.2.1.1.1.1.2.2.1, d.2.1.1.1.1.2.2.2.1, d.2.1.1.1.1.2.2.2.2.1, d.2.1.1.1.1.2.2.2.2.2.1, d.2.1.1.1.1.2.2.2.2.2.2.1, d.2.2.1.1, d.2.2.1.2.1, d.2.2.1.2.2.1, d.2.2.1.2.2.2.1, d.2.2.2.1.1, d.2.2.2.1.2.1, d.2.2.2.1.2.2.1, d.2.2.2.1.2.2.2.1, d.2.2.2.1.2.2.2.2.1, d.2.2.2.1.2.2.2.2.2.1, d.2.2.2.1.2.2.2.2.2.2.1)
def un_check_scope_cond_185_0_0 (x : X_check_scope_cond_185_0_0) : StD s_check_scope_cond_185_0_0 := ((x.1, ((), ((), ())), x.2.1, x.2.2.1, ()), (((((x.2.2.2.1, x.2.2.2.2.1, x.2.2.2.2.2.1, x.2.2.2.2.2.2.1, x.2.2.2.2.2.2.2.1, x.2.2.2.2.2.2.2.2.1, x.2.2.2.2.2.2.2.2.2.1, ()), ()), ()), ()), (x.2.2.2.2.2.2.2.2.2.2.1, x.2.2.2.2.2.2.2.2.2.2.2.1, x.2.2.2.2.2.2.2.2.2.2.2.2.1, x.2.2.2.2.2.2.2.2.2.2.2.2.2.1, ()), (x.2.2.2.2.2.2.2.2.2.2.2.2.2.2.1, x.2.2.2.2.2.2.2.2.2.2.2.2.2.2.2.1, x.2.2.2.2.2.2.2.2.2.2.2.2.2.2.2.2.1, x.2.2.2.2.2.2.2.2.2.2.2.2.2.2.2.2.2.1, x.2.2.2.2.2.2.2.2.2.2.2.2.2.2.2.2.2.2.1, x.2.2.2.2.2.2.2.2.2.2.2.2.2.2.2.2.2.2.2.1, x.2.2.2.2.2.2.2.2.2.2.2.2.2.2.2.2.2.2.2.2, ()), ()))
abbrev X_check_scope_cond_185_0_0_0 := ((List Gb) × (List Gb) × (List ByteArray) × (List Th) × ByteArray × (List ByteArray) × (List (RT.C 2)) × Int × Int × (List (RT.C 0)) × (List (RT.C 1)) × (List Gb) × (List Gb) × (List ByteArray) × (List Th) × ByteArray × (List ByteArray) × (List (RT.C 2)))
def fl_check_scope_cond_185_0_0_0 (d : StD x_check_scope_cond_185_0_0_0) : X_check_scope_cond_185_0_0_0 := (d.2.1.1.1.1.1, d.2.1.1.1.1.2.1, d.2.1.1.1.1.2.2.1, d.2.1.1.1.1.2.2.2.1, d.2.1.1.1.1.2.2.2.2.1, d.2.1.1.1.1.2.2.2.2.2.1, d.2.1.1.1.1.2.2.2.2.2.2.1, d.2.2.1.1, d.2.2.1.2.1, d.2.2.1.2.2.1, d.2.2.1.2.2.2.1, d.2.2.2.1.1, d.2.2.2.1.2.1, d.2.2.2.1.2.2.1, d.2.2.2.1.2.2.2.1, d.2.2.2.1.2.2.2.2.1, d.2.2.2.1.2.2.2.2.2.1, d.2.2.2.1.2.2.2.2.2.2.1)
def un_check_scope_cond_185_0_0_0 (x : X_check_scope_cond_185_0_0_0) : StD x_check_scope_cond_185_0_0_0 := (((), ()), (((((x.1, x.2.1, x.2.2.1, x.2.2.2.1, x.2.2.2.2.1, x.2.2.2.2.2.1, x.2.2.2.2.2.2.1, ()), ()), ()), ()), (x.2.2.2.2.2.2.2.1, x.2.2.2.2.2.2.2.2.1, x.2.2.2.2.2.2.2.2.2.1, x.2.2.2.2.2.2.2.2.2.2.1, ()), (x.2.2.2.2.2.2.2.2.2.2.2.1, x.2.2.2.2.2.2.2.2.2.2.2.2.1, x.2.2.2.2.2.2.2.2.2.2.2.2.2.1, x.2.2.2.2.2.2.2.2.2.2.2.2.2.2.1, x.2.2.2.2.2.2.2.2.2.2.2.2.2.2.2.1, x.2.2.2.2.2.2.2.2.2.2.2.2.2.2.2.2.1, x.2.2.2.2.2.2.2.2.2.2.2.2.2.2.2.2.2, ()), ()))
abbrev X_check_scope_cond_185_0_0_1 := (Int × (List Gb) × (List Gb) × (List ByteArray) × (List Th) × ByteArray × (List ByteArray) × (List (RT.C 2)) × Int × Int × (List (RT.C 0)) × (List (RT.C 1)) × (List Gb) × (List Gb) × (List ByteArray) × (List Th) × ByteArray × (List ByteArray) × (List (RT.C 2)))
def fl_check_scope_cond_185_0_0_1 (d : StD x_check_scope_cond_185_0_0_1) : X_check_scope_cond_185_0_0_1 := (d.1.1, d.2.1.1.1.1.1, d.2.1.1.1.1.2.1, d.2.1.1.1.1.2.2.1, d.2.1.1.1.1.2.2.2.1, d.2.1.1.1.1.2.2.2.2.1, d.2.1.1.1.1.2.2.2.2.2.1, d.2.1.1.1.1.2.2.2.2.2.2.1, d.2.2.1.1, d.2.2.1.2.1, d.2.2.1.2.2.1, d.2.2.1.2.2.2.1, d.2.2.2.1.1, d.2.2.2.1.2.1, d.2.2.2.1.2.2.1, d.2.2.2.1.2.2.2.1, d.2.2.2.1.2.2.2.2.1, d.2.2.2.1.2.2.2.2.2.1, d.2.2.2.1.2.2.2.2.2.2.1)
def un_check_scope_cond_185_0_0_1 (x : X_check_scope_cond_185_0_0_1) : StD x_check_scope_cond_185_0_0_1 := ((x.1, ()), (((((x.2.1, x.2.2.1, x.2.2.2.1, x.2.2.2.2.1, x.2.2.2.2.2.1, x.2.2.2.2.2.2.1, x.2.2.2.2.2.2.2.1, ()), ()), ()), ()), (x.2.2.2.2.2.2.2.2.1, x.2.2.2.2.2.2.2.2.2.1, x.2.2.2.2.2.2.2.2.2.2.1, x.2.2.2.2.2.2.2.2.2.2.2.1, ()), (x.2.2.2.2.2.2.2.2.2.2.2.2.1, x.2.2.2.2.2.2.2.2.2.2.2.2.2.1, x.2.2.2.2.2.2.2.2.2.2.2.2.2.2.1, x.2.2.2.2.2.2.2.2.2.2.2.2.2.2.2.1, x.2.2.2.2.2.2.2.2.2.2.2.2.2.2.2.2.1, x.2.2.2.2.2.2.2.2.2.2.2.2.2.2.2.2.2.1, x.2.2.2.2.2.2.2.2.2.2.2.2.2.2.2.2.2.2, ()), ()))
noncomputable def st_check_scope_cond_185_0_0 (s0 : (List (RT.C 0))) (s7 : Int) (s8 : Int) (b2 : (List Gb)) (b2_1 : (List Gb)) (b2_2 : (List ByteArray)) (b2_3 : (List Th)) (b2_4 : ByteArray) (b2_5 : (List ByteArray)) (b2_6 : (List (RT.C 2))) (b1 : Int) (b1_1 : Int) (b1_2 : (List (RT.C 0))) (b1_3 : (List (RT.C 1))) (b0 : (List Gb)) (b0_1 : (List Gb)) (b0_2 : (List ByteArray)) (b0_3 : (List Th)) (b0_4 : ByteArray) (b0_5 : (List ByteArray)) (b0_6 : (List (RT.C 2))) : Option (((List (RT.C 0)) × Int × Int × (List Gb) × (List Gb) × (List ByteArray) × (List Th) × ByteArray × (List ByteArray) × (List (RT.C 2)) × Int × Int × (List (RT.C 0)) × (List (RT.C 1)) × (List Gb) × (List Gb) × (List ByteArray) × (List Th) × ByteArray × (List ByteArray) × (List (RT.C 2))) ⊕ (((List Gb) × (List Gb) × (List ByteArray) × (List Th) × ByteArray × (List ByteArray) × (List (RT.C 2)) × Int × Int × (List (RT.C 0)) × (List (RT.C 1)) × (List Gb) × (List Gb) × (List ByteArray) × (List Th) × ByteArray × (List ByteArray) × (List (RT.C 2))) ⊕ (Int × (List Gb) × (List Gb) × (List ByteArray) × (List Th) × ByteArray × (List ByteArray) × (List (RT.C 2)) × Int × Int × (List (RT.C 0)) × (List (RT.C 1)) × (List Gb) × (List Gb) × (List ByteArray) × (List Th) × ByteArray × (List ByteArray) × (List (RT.C 2))))) :=
  bif decide (s8 < s7) then
 bif decide (0 ≤ s8) then
 optC s0[s8.toNat]? none fun d25 ↦
 optC (G_check_scope_expr (((b2, b2_1, b2_2, b2_3), b2_4, b2_5, b2_6), uT0 d25, ())) none fun d26 ↦
 bif !d26 then some (Sum.inr (Sum.inr (s8, b2, b2_1, b2_2, b2_3, b2_4, b2_5, b2_6, b1, b1_1, b1_2, b1_3, b0, b0_1, b0_2, b0_3, b0_4, b0_5, b0_6)))
 else some (Sum.inl (s0, s7, Go.IntKind.i64.wrap (s8 + 1), b2, b2_1, b2_2, b2_3, b2_4, b2_5, b2_6, b1, b1_1, b1_2, b1_3, b0, b0_1, b0_2, b0_3, b0_4, b0_5, b0_6))
 else none
 else some (Sum.inr (Sum.inl (b2, b2_1, b2_2, b2_3, b2_4, b2_5, b2_6, b1, b1_1, b1_2, b1_3, b0, b0_1, b0_2, b0_3, b0_4, b0_5, b0_6)))
noncomputable def sx_check_scope_cond_185_0_0 (x : X_check_scope_cond_185_0_0) : Option (X_check_scope_cond_185_0_0 ⊕ (X_check_scope_cond_185_0_0_0 ⊕ X_check_scope_cond_185_0_0_1)) := st_check_scope_cond_185_0_0 x.1 x.2.1 x.2.2.1 x.2.2.2.1 x.2.2.2.2.1 x.2.2.2.2.2.1 x.2.2.2.2.2.2.1 x.2.2.2.2.2.2.2.1 x.2.2.2.2.2.2.2.2.1 x.2.2.2.2.2.2.2.2.2.1 x.2.2.2.2.2.2.2.2.2.2.1 x.2.2.2.2.2.2.2.2.2.2.2.1 x.2.2.2.2.2.2.2.2.2.2.2.2.1 x.2.2.2.2.2.2.2.2.2.2.2.2.2.1 x.2.2.2.2.2.2.2.2.2.2.2.2.2.2.1 x.2.2.2.2.2.2.2.2.2.2.2.2.2.2.2.1 x.2.2.2.2.2.2.2.2.2.2.2.2.2.2.2.2.1 x.2.2.2.2.2.2.2.2.2.2.2.2.2.2.2.2.2.1 x.2.2.2.2.2.2.2.2.2.2.2.2.2.2.2.2.2.2.1 x.2.2.2.2.2.2.2.2.2.2.2.2.2.2.2.2.2.2.2.1 x.2.2.2.2.2.2.2.2.2.2.2.2.2.2.2.2.2.2.2.2
theorem rn_check_scope_cond_185_0_0 (x : X_check_scope_cond_185_0_0) : rdX (cxU sp_check_scope_cond [] 40 (1048576 ^ 9)) keeps 8 ⟨185, 19, keeps 185, 3⟩ 0 (bodyX 185 0) 3 kp_check_scope_cond_185_0 (sT s_check_scope_cond_185_0_0 (un_check_scope_cond_185_0_0 x)) (sH s_check_scope_cond_185_0_0 (un_check_scope_cond_185_0_0 x)) (rdO (fun T h => (rdS s_check_scope_cond_185_0_0 T h).map fl_check_scope_cond_185_0_0) (getOr (getE 2 x_check_scope_cond_185_0_0_0 fl_check_scope_cond_185_0_0_0) (getE 1 x_check_scope_cond_185_0_0_1 fl_check_scope_cond_185_0_0_1))) = sx_check_scope_cond_185_0_0 x := by kernel_rfl
noncomputable def L_check_scope_cond_185_0_0 (x : X_check_scope_cond_185_0_0) : Option (X_check_scope_cond_185_0_0_0 ⊕ X_check_scope_cond_185_0_0_1) := iterO (fun x => st_check_scope_cond_185_0_0 x.1 x.2.1 x.2.2.1 x.2.2.2.1 x.2.2.2.2.1 x.2.2.2.2.2.1 x.2.2.2.2.2.2.1 x.2.2.2.2.2.2.2.1 x.2.2.2.2.2.2.2.2.1 x.2.2.2.2.2.2.2.2.2.1 x.2.2.2.2.2.2.2.2.2.2.1 x.2.2.2.2.2.2.2.2.2.2.2.1 x.2.2.2.2.2.2.2.2.2.2.2.2.1 x.2.2.2.2.2.2.2.2.2.2.2.2.2.1 x.2.2.2.2.2.2.2.2.2.2.2.2.2.2.1 x.2.2.2.2.2.2.2.2.2.2.2.2.2.2.2.1 x.2.2.2.2.2.2.2.2.2.2.2.2.2.2.2.2.1 x.2.2.2.2.2.2.2.2.2.2.2.2.2.2.2.2.2.1 x.2.2.2.2.2.2.2.2.2.2.2.2.2.2.2.2.2.2.1 x.2.2.2.2.2.2.2.2.2.2.2.2.2.2.2.2.2.2.2.1 x.2.2.2.2.2.2.2.2.2.2.2.2.2.2.2.2.2.2.2.2) FUEL x
noncomputable def q_check_scope_cond_185_0 : Nat → Tm → Prog (Nat × Tm) := (varP 3 (fun T h => (rdS s_check_scope_cond_185_0_0 T h).map fl_check_scope_cond_185_0_0) L_check_scope_cond_185_0_0 (fun y => .alt y (altE 2 x_check_scope_cond_185_0_0_0 un_check_scope_cond_185_0_0_0) (altE 1 x_check_scope_cond_185_0_0_1 un_check_scope_cond_185_0_0_1)) (fun _ _ => .fail))
noncomputable def lc_check_scope_cond_185_0 : Lpc := ⟨185, 0, 19, (fun base T => .norm base (kp_check_scope_cond_185_0 0) T (q_check_scope_cond_185_0 base)), by kernel_rfl, by kernel_rfl, (loopU sp_check_scope_cond [] 40 (1048576 ^ 9) 8 (keep := kp_check_scope_cond_185_0) (q := q_check_scope_cond_185_0) (by kernel_rfl) (varX_ok (s := s_check_scope_cond_185_0_0) (un := un_check_scope_cond_185_0_0) (by rfl) (fun _ => rfl) (getOr_ok (getE_ok (s := x_check_scope_cond_185_0_0_0) (un := un_check_scope_cond_185_0_0_0) (by rfl) (fun _ => rfl)) (getE_ok (s := x_check_scope_cond_185_0_0_1) (un := un_check_scope_cond_185_0_0_1) (by rfl) (fun _ => rfl))) (step := sx_check_scope_cond_185_0_0) rn_check_scope_cond_185_0_0 (fun _ _ e => ⟨_, e⟩) (altOr_ok (altE_ok 2 x_check_scope_cond_185_0_0_0 un_check_scope_cond_185_0_0_0) (altE_ok 1 x_check_scope_cond_185_0_0_1 un_check_scope_cond_185_0_0_1)) (VarOk.fail _ _)))⟩
noncomputable abbrev cx_check_scope_cond_186_0 := cxU sp_check_scope_cond [lc_check_scope_cond_185_0] 40 (1048576 ^ 9)
def s_check_scope_cond_186_0_0 : StS := ⟨[(0, .sl (.mu 1)), (1, .clo 165 [] [.ptr 3 0]), (7, .int .i64), (8, .int .i64)], [(3, .box [.clo 95 [.agg [.sl tGb, .sl tGb, .sl .str, .sl tTh, .str, .sl .str, .sl (.mu 2)]] []]), (2, .box [.clo 94 [.agg [.sl tGb, .sl tGb, .sl .str, .sl tTh, .str, .sl .str, .sl (.mu 2)]] []]), (1, .box [.int .i64, .int .i64, .sl (.mu 0), .sl (.mu 1)]), (0, .box [.sl tGb, .sl tGb, .sl .str, .sl tTh, .str, .sl .str, .sl (.mu 2)])], 4⟩
def x_check_scope_cond_186_0_0_0 : StS := ⟨[(4, .undef)], [(3, .box [.clo 95 [.agg [.sl tGb, .sl tGb, .sl .str, .sl tTh, .str, .sl .str, .sl (.mu 2)]] []]), (2, .box [.clo 94 [.agg [.sl tGb, .sl tGb, .sl .str, .sl tTh, .str, .sl .str, .sl (.mu 2)]] []]), (1, .box [.int .i64, .int .i64, .sl (.mu 0), .sl (.mu 1)]), (0, .box [.sl tGb, .sl tGb, .sl .str, .sl tTh, .str, .sl .str, .sl (.mu 2)])], 4⟩
def x_check_scope_cond_186_0_0_1 : StS := ⟨[(4, .int .i64)], [(3, .box [.clo 95 [.agg [.sl tGb, .sl tGb, .sl .str, .sl tTh, .str, .sl .str, .sl (.mu 2)]] []]), (2, .box [.clo 94 [.agg [.sl tGb, .sl tGb, .sl .str, .sl tTh, .str, .sl .str, .sl (.mu 2)]] []]), (1, .box [.int .i64, .int .i64, .sl (.mu 0), .sl (.mu 1)]), (0, .box [.sl tGb, .sl tGb, .sl .str, .sl tTh, .str, .sl .str, .sl (.mu 2)])], 4⟩
abbrev X_check_scope_cond_186_0_0 := ((List (RT.C 1)) × Int × Int × (List Gb) × (List Gb) × (List ByteArray) × (List Th) × ByteArray × (List ByteArray) × (List (RT.C 2)) × (List Gb) × (List Gb) × (List ByteArray) × (List Th) × ByteArray × (List ByteArray) × (List (RT.C 2)) × Int × Int × (List (RT.C 0)) × (List (RT.C 1)) × (List Gb) × (List Gb) × (List ByteArray) × (List Th) × ByteArray × (List ByteArray) × (List (RT.C 2)))
def fl_check_scope_cond_186_0_0 (d : StD s_check_scope_cond_186_0_0) : X_check_scope_cond_186_0_0 := (d.1.1, d.1.2.2.1, d.1.2.2.2.1, d.2.1.1.1.1.1, d.2.1.1.1.1.2.1, d.2.1.1.1.1.2.2.1, d.2.1.1.1.1.2.2.2.1, d.2.1.1.1.1.2.2.2.2.1, d.2.1.1.1.1.2.2.2.2.2.1, d.2.1.1.1.1.2.2.2.2.2.2.1, d.2.2.1.1.1.1.1, d.2.2.1.1.1.1.2.1, d.2.2.1.1.1.1.2.2.1, d.2.2.1.1.1.1.2.2.2.1, d.2.2.1.1.1.1.2.2.2.2.1, d.2.2.1.1.1.1.2.2.2.2.2.1, d.2.2.1.1.1.1.2.2.2.2.2.2.1, d.2.2.2.1.1, d.2.2.2.1.2.1, d.2.2.2.1.2.2.1, d.2.2.2.1.2.2.2.1, d.2.2.2.2.1.1, d.2.2.2.2.1.2.1, d.2.2.2.2.1.2.2.1, d.2.2.2.2.1.2.2.2.1, d.2.2.2.2.1.2.2.2.2.1, d.2.2.2.2.1.2.2.2.2.2.1, d.2.2.2.2.1.2.2.2.2.2.2.1)
def un_check_scope_cond_186_0_0 (x : X_check_scope_cond_186_0_0) : StD s_check_scope_cond_186_0_0 := ((x.1, ((), ((), ())), x.2.1, x.2.2.1, ()), (((((x.2.2.2.1, x.2.2.2.2.1, x.2.2.2.2.2.1, x.2.2.2.2.2.2.1, x.2.2.2.2.2.2.2.1, x.2.2.2.2.2.2.2.2.1, x.2.2.2.2.2.2.2.2.2.1, ()), ()), ()), ()), ((((x.2.2.2.2.2.2.2.2.2.2.1, x.2.2.2.2.2.2.2.2.2.2.2.1, x.2.2.2.2.2.2.2.2.2.2.2.2.1, x.2.2.2.2.2.2.2.2.2.2.2.2.2.1, x.2.2.2.2.2.2.2.2.2.2.2.2.2.2.1, x.2.2.2.2.2.2.2.2.2.2.2.2.2.2.2.1, x.2.2.2.2.2.2.2.2.2.2.2.2.2.2.2.2.1, ()), ()), ()), ()), (x.2.2.2.2.2.2.2.2.2.2.2.2.2.2.2.2.2.1, x.2.2.2.2.2.2.2.2.2.2.2.2.2.2.2.2.2.2.1, x.2.2.2.2.2.2.2.2.2.2.2.2.2.2.2.2.2.2.2.1, x.2.2.2.2.2.2.2.2.2.2.2.2.2.2.2.2.2.2.2.2.1, ()), (x.2.2.2.2.2.2.2.2.2.2.2.2.2.2.2.2.2.2.2.2.2.1, x.2.2.2.2.2.2.2.2.2.2.2.2.2.2.2.2.2.2.2.2.2.2.1, x.2.2.2.2.2.2.2.2.2.2.2.2.2.2.2.2.2.2.2.2.2.2.2.1, x.2.2.2.2.2.2.2.2.2.2.2.2.2.2.2.2.2.2.2.2.2.2.2.2.1, x.2.2.2.2.2.2.2.2.2.2.2.2.2.2.2.2.2.2.2.2.2.2.2.2.2.1, x.2.2.2.2.2.2.2.2.2.2.2.2.2.2.2.2.2.2.2.2.2.2.2.2.2.2.1, x.2.2.2.2.2.2.2.2.2.2.2.2.2.2.2.2.2.2.2.2.2.2.2.2.2.2.2, ()), ()))
abbrev X_check_scope_cond_186_0_0_0 := ((List Gb) × (List Gb) × (List ByteArray) × (List Th) × ByteArray × (List ByteArray) × (List (RT.C 2)) × (List Gb) × (List Gb) × (List ByteArray) × (List Th) × ByteArray × (List ByteArray) × (List (RT.C 2)) × Int × Int × (List (RT.C 0)) × (List (RT.C 1)) × (List Gb) × (List Gb) × (List ByteArray) × (List Th) × ByteArray × (List ByteArray) × (List (RT.C 2)))
def fl_check_scope_cond_186_0_0_0 (d : StD x_check_scope_cond_186_0_0_0) : X_check_scope_cond_186_0_0_0 := (d.2.1.1.1.1.1, d.2.1.1.1.1.2.1, d.2.1.1.1.1.2.2.1, d.2.1.1.1.1.2.2.2.1, d.2.1.1.1.1.2.2.2.2.1, d.2.1.1.1.1.2.2.2.2.2.1, d.2.1.1.1.1.2.2.2.2.2.2.1, d.2.2.1.1.1.1.1, d.2.2.1.1.1.1.2.1, d.2.2.1.1.1.1.2.2.1, d.2.2.1.1.1.1.2.2.2.1, d.2.2.1.1.1.1.2.2.2.2.1, d.2.2.1.1.1.1.2.2.2.2.2.1, d.2.2.1.1.1.1.2.2.2.2.2.2.1, d.2.2.2.1.1, d.2.2.2.1.2.1, d.2.2.2.1.2.2.1, d.2.2.2.1.2.2.2.1, d.2.2.2.2.1.1, d.2.2.2.2.1.2.1, d.2.2.2.2.1.2.2.1, d.2.2.2.2.1.2.2.2.1, d.2.2.2.2.1.2.2.2.2.1, d.2.2.2.2.1.2.2.2.2.2.1, d.2.2.2.2.1.2.2.2.2.2.2.1)
def un_check_scope_cond_186_0_0_0 (x : X_check_scope_cond_186_0_0_0) : StD x_check_scope_cond_186_0_0_0 := (((), ()), (((((x.1, x.2.1, x.2.2.1, x.2.2.2.1, x.2.2.2.2.1, x.2.2.2.2.2.1, x.2.2.2.2.2.2.1, ()), ()), ()), ()), ((((x.2.2.2.2.2.2.2.1, x.2.2.2.2.2.2.2.2.1, x.2.2.2.2.2.2.2.2.2.1, x.2.2.2.2.2.2.2.2.2.2.1, x.2.2.2.2.2.2.2.2.2.2.2.1, x.2.2.2.2.2.2.2.2.2.2.2.2.1, x.2.2.2.2.2.2.2.2.2.2.2.2.2.1, ()), ()), ()), ()), (x.2.2.2.2.2.2.2.2.2.2.2.2.2.2.1, x.2.2.2.2.2.2.2.2.2.2.2.2.2.2.2.1, x.2.2.2.2.2.2.2.2.2.2.2.2.2.2.2.2.1, x.2.2.2.2.2.2.2.2.2.2.2.2.2.2.2.2.2.1, ()), (x.2.2.2.2.2.2.2.2.2.2.2.2.2.2.2.2.2.2.1, x.2.2.2.2.2.2.2.2.2.2.2.2.2.2.2.2.2.2.2.1, x.2.2.2.2.2.2.2.2.2.2.2.2.2.2.2.2.2.2.2.2.1, x.2.2.2.2.2.2.2.2.2.2.2.2.2.2.2.2.2.2.2.2.2.1, x.2.2.2.2.2.2.2.2.2.2.2.2.2.2.2.2.2.2.2.2.2.2.1, x.2.2.2.2.2.2.2.2.2.2.2.2.2.2.2.2.2.2.2.2.2.2.2.1, x.2.2.2.2.2.2.2.2.2.2.2.2.2.2.2.2.2.2.2.2.2.2.2.2, ()), ()))
abbrev X_check_scope_cond_186_0_0_1 := (Int × (List Gb) × (List Gb) × (List ByteArray) × (List Th) × ByteArray × (List ByteArray) × (List (RT.C 2)) × (List Gb) × (List Gb) × (List ByteArray) × (List Th) × ByteArray × (List ByteArray) × (List (RT.C 2)) × Int × Int × (List (RT.C 0)) × (List (RT.C 1)) × (List Gb) × (List Gb) × (List ByteArray) × (List Th) × ByteArray × (List ByteArray) × (List (RT.C 2)))
def fl_check_scope_cond_186_0_0_1 (d : StD x_check_scope_cond_186_0_0_1) : X_check_scope_cond_186_0_0_1 := (d.1.1, d.2.1.1.1.1.1, d.2.1.1.1.1.2.1, d.2.1.1.1.1.2.2.1, d.2.1.1.1.1.2.2.2.1, d.2.1.1.1.1.2.2.2.2.1, d.2.1.1.1.1.2.2.2.2.2.1, d.2.1.1.1.1.2.2.2.2.2.2.1, d.2.2.1.1.1.1.1, d.2.2.1.1.1.1.2.1, d.2.2.1.1.1.1.2.2.1, d.2.2.1.1.1.1.2.2.2.1, d.2.2.1.1.1.1.2.2.2.2.1, d.2.2.1.1.1.1.2.2.2.2.2.1, d.2.2.1.1.1.1.2.2.2.2.2.2.1, d.2.2.2.1.1, d.2.2.2.1.2.1, d.2.2.2.1.2.2.1, d.2.2.2.1.2.2.2.1, d.2.2.2.2.1.1, d.2.2.2.2.1.2.1, d.2.2.2.2.1.2.2.1, d.2.2.2.2.1.2.2.2.1, d.2.2.2.2.1.2.2.2.2.1, d.2.2.2.2.1.2.2.2.2.2.1, d.2.2.2.2.1.2.2.2.2.2.2.1)
def un_check_scope_cond_186_0_0_1 (x : X_check_scope_cond_186_0_0_1) : StD x_check_scope_cond_186_0_0_1 := ((x.1, ()), (((((x.2.1, x.2.2.1, x.2.2.2.1, x.2.2.2.2.1, x.2.2.2.2.2.1, x.2.2.2.2.2.2.1, x.2.2.2.2.2.2.2.1, ()), ()), ()), ()), ((((x.2.2.2.2.2.2.2.2.1, x.2.2.2.2.2.2.2.2.2.1, x.2.2.2.2.2.2.2.2.2.2.1, x.2.2.2.2.2.2.2.2.2.2.2.1, x.2.2.2.2.2.2.2.2.2.2.2.2.1, x.2.2.2.2.2.2.2.2.2.2.2.2.2.1, x.2.2.2.2.2.2.2.2.2.2.2.2.2.2.1, ()), ()), ()), ()), (x.2.2.2.2.2.2.2.2.2.2.2.2.2.2.2.1, x.2.2.2.2.2.2.2.2.2.2.2.2.2.2.2.2.1, x.2.2.2.2.2.2.2.2.2.2.2.2.2.2.2.2.2.1, x.2.2.2.2.2.2.2.2.2.2.2.2.2.2.2.2.2.2.1, ()), (x.2.2.2.2.2.2.2.2.2.2.2.2.2.2.2.2.2.2.2.1, x.2.2.2.2.2.2.2.2.2.2.2.2.2.2.2.2.2.2.2.2.1, x.2.2.2.2.2.2.2.2.2.2.2.2.2.2.2.2.2.2.2.2.2.1, x.2.2.2.2.2.2.2.2.2.2.2.2.2.2.2.2.2.2.2.2.2.2.1, x.2.2.2.2.2.2.2.2.2.2.2.2.2.2.2.2.2.2.2.2.2.2.2.1, x.2.2.2.2.2.2.2.2.2.2.2.2.2.2.2.2.2.2.2.2.2.2.2.2.1, x.2.2.2.2.2.2.2.2.2.2.2.2.2.2.2.2.2.2.2.2.2.2.2.2.2, ()), ()))
noncomputable def st_check_scope_cond_186_0_0 (s0 : (List (RT.C 1))) (s7 : Int) (s8 : Int) (b3 : (List Gb)) (b3_1 : (List Gb)) (b3_2 : (List ByteArray)) (b3_3 : (List Th)) (b3_4 : ByteArray) (b3_5 : (List ByteArray)) (b3_6 : (List (RT.C 2))) (b2 : (List Gb)) (b2_1 : (List Gb)) (b2_2 : (List ByteArray)) (b2_3 : (List Th)) (b2_4 : ByteArray) (b2_5 : (List ByteArray)) (b2_6 : (List (RT.C 2))) (b1 : Int) (b1_1 : Int) (b1_2 : (List (RT.C 0))) (b1_3 : (List (RT.C 1))) (b0 : (List Gb)) (b0_1 : (List Gb)) (b0_2 : (List ByteArray)) (b0_3 : (List Th)) (b0_4 : ByteArray) (b0_5 : (List ByteArray)) (b0_6 : (List (RT.C 2))) : Option (((List (RT.C 1)) × Int × Int × (List Gb) × (List Gb) × (List ByteArray) × (List Th) × ByteArray × (List ByteArray) × (List (RT.C 2)) × (List Gb) × (List Gb) × (List ByteArray) × (List Th) × ByteArray × (List ByteArray) × (List (RT.C 2)) × Int × Int × (List (RT.C 0)) × (List (RT.C 1)) × (List Gb) × (List Gb) × (List ByteArray) × (List Th) × ByteArray × (List ByteArray) × (List (RT.C 2))) ⊕ (((List Gb) × (List Gb) × (List ByteArray) × (List Th) × ByteArray × (List ByteArray) × (List (RT.C 2)) × (List Gb) × (List Gb) × (List ByteArray) × (List Th) × ByteArray × (List ByteArray) × (List (RT.C 2)) × Int × Int × (List (RT.C 0)) × (List (RT.C 1)) × (List Gb) × (List Gb) × (List ByteArray) × (List Th) × ByteArray × (List ByteArray) × (List (RT.C 2))) ⊕ (Int × (List Gb) × (List Gb) × (List ByteArray) × (List Th) × ByteArray × (List ByteArray) × (List (RT.C 2)) × (List Gb) × (List Gb) × (List ByteArray) × (List Th) × ByteArray × (List ByteArray) × (List (RT.C 2)) × Int × Int × (List (RT.C 0)) × (List (RT.C 1)) × (List Gb) × (List Gb) × (List ByteArray) × (List Th) × ByteArray × (List ByteArray) × (List (RT.C 2))))) :=
  bif decide (s8 < s7) then
 bif decide (0 ≤ s8) then
 optC s0[s8.toNat]? none fun d32 ↦
 optC (Rec_check_scope_cond.K (((b3, b3_1, b3_2, b3_3), b3_4, b3_5, b3_6), uT1 d32, ())) none fun d33 ↦
 bif !d33 then some (Sum.inr (Sum.inr (s8, b3, b3_1, b3_2, b3_3, b3_4, b3_5, b3_6, b2, b2_1, b2_2, b2_3, b2_4, b2_5, b2_6, b1, b1_1, b1_2, b1_3, b0, b0_1, b0_2, b0_3, b0_4, b0_5, b0_6)))
 else
 some
 (Sum.inl
 (s0, s7, Go.IntKind.i64.wrap (s8 + 1), b3, b3_1, b3_2, b3_3, b3_4, b3_5, b3_6, b2, b2_1, b2_2, b2_3, b2_4, b2_5, b2_6, b1, b1_1, b1_2, b1_3, b0, b0_1, b0_2, b0_3, b0_4, b0_5, b0_6))
 else none
 else some (Sum.inr (Sum.inl (b3, b3_1, b3_2, b3_3, b3_4, b3_5, b3_6, b2, b2_1, b2_2, b2_3, b2_4, b2_5, b2_6, b1, b1_1, b1_2, b1_3, b0, b0_1, b0_2, b0_3, b0_4, b0_5, b0_6)))
noncomputable def sx_check_scope_cond_186_0_0 (x : X_check_scope_cond_186_0_0) : Option (X_check_scope_cond_186_0_0 ⊕ (X_check_scope_cond_186_0_0_0 ⊕ X_check_scope_cond_186_0_0_1)) := st_check_scope_cond_186_0_0 x.1 x.2.1 x.2.2.1 x.2.2.2.1 x.2.2.2.2.1 x.2.2.2.2.2.1 x.2.2.2.2.2.2.1 x.2.2.2.2.2.2.2.1 x.2.2.2.2.2.2.2.2.1 x.2.2.2.2.2.2.2.2.2.1 x.2.2.2.2.2.2.2.2.2.2.1 x.2.2.2.2.2.2.2.2.2.2.2.1 x.2.2.2.2.2.2.2.2.2.2.2.2.1 x.2.2.2.2.2.2.2.2.2.2.2.2.2.1 x.2.2.2.2.2.2.2.2.2.2.2.2.2.2.1 x.2.2.2.2.2.2.2.2.2.2.2.2.2.2.2.1 x.2.2.2.2.2.2.2.2.2.2.2.2.2.2.2.2.1 x.2.2.2.2.2.2.2.2.2.2.2.2.2.2.2.2.2.1 x.2.2.2.2.2.2.2.2.2.2.2.2.2.2.2.2.2.2.1 x.2.2.2.2.2.2.2.2.2.2.2.2.2.2.2.2.2.2.2.1 x.2.2.2.2.2.2.2.2.2.2.2.2.2.2.2.2.2.2.2.2.1 x.2.2.2.2.2.2.2.2.2.2.2.2.2.2.2.2.2.2.2.2.2.1 x.2.2.2.2.2.2.2.2.2.2.2.2.2.2.2.2.2.2.2.2.2.2.1 x.2.2.2.2.2.2.2.2.2.2.2.2.2.2.2.2.2.2.2.2.2.2.2.1 x.2.2.2.2.2.2.2.2.2.2.2.2.2.2.2.2.2.2.2.2.2.2.2.2.1 x.2.2.2.2.2.2.2.2.2.2.2.2.2.2.2.2.2.2.2.2.2.2.2.2.2.1 x.2.2.2.2.2.2.2.2.2.2.2.2.2.2.2.2.2.2.2.2.2.2.2.2.2.2.1 x.2.2.2.2.2.2.2.2.2.2.2.2.2.2.2.2.2.2.2.2.2.2.2.2.2.2.2
theorem rn_check_scope_cond_186_0_0 (x : X_check_scope_cond_186_0_0) : rdX cx_check_scope_cond_186_0 keeps 8 ⟨186, 19, keeps 186, 4⟩ 0 (bodyX 186 0) 4 kp_check_scope_cond_186_0 (sT s_check_scope_cond_186_0_0 (un_check_scope_cond_186_0_0 x)) (sH s_check_scope_cond_186_0_0 (un_check_scope_cond_186_0_0 x)) (rdO (fun T h => (rdS s_check_scope_cond_186_0_0 T h).map fl_check_scope_cond_186_0_0) (getOr (getE 2 x_check_scope_cond_186_0_0_0 fl_check_scope_cond_186_0_0_0) (getE 1 x_check_scope_cond_186_0_0_1 fl_check_scope_cond_186_0_0_1))) = sx_check_scope_cond_186_0_0 x := by kernel_rfl
noncomputable def L_check_scope_cond_186_0_0 (x : X_check_scope_cond_186_0_0) : Option (X_check_scope_cond_186_0_0_0 ⊕ X_check_scope_cond_186_0_0_1) := iterO (fun x => st_check_scope_cond_186_0_0 x.1 x.2.1 x.2.2.1 x.2.2.2.1 x.2.2.2.2.1 x.2.2.2.2.2.1 x.2.2.2.2.2.2.1 x.2.2.2.2.2.2.2.1 x.2.2.2.2.2.2.2.2.1 x.2.2.2.2.2.2.2.2.2.1 x.2.2.2.2.2.2.2.2.2.2.1 x.2.2.2.2.2.2.2.2.2.2.2.1 x.2.2.2.2.2.2.2.2.2.2.2.2.1 x.2.2.2.2.2.2.2.2.2.2.2.2.2.1 x.2.2.2.2.2.2.2.2.2.2.2.2.2.2.1 x.2.2.2.2.2.2.2.2.2.2.2.2.2.2.2.1 x.2.2.2.2.2.2.2.2.2.2.2.2.2.2.2.2.1 x.2.2.2.2.2.2.2.2.2.2.2.2.2.2.2.2.2.1 x.2.2.2.2.2.2.2.2.2.2.2.2.2.2.2.2.2.2.1 x.2.2.2.2.2.2.2.2.2.2.2.2.2.2.2.2.2.2.2.1 x.2.2.2.2.2.2.2.2.2.2.2.2.2.2.2.2.2.2.2.2.1 x.2.2.2.2.2.2.2.2.2.2.2.2.2.2.2.2.2.2.2.2.2.1 x.2.2.2.2.2.2.2.2.2.2.2.2.2.2.2.2.2.2.2.2.2.2.1 x.2.2.2.2.2.2.2.2.2.2.2.2.2.2.2.2.2.2.2.2.2.2.2.1 x.2.2.2.2.2.2.2.2.2.2.2.2.2.2.2.2.2.2.2.2.2.2.2.2.1 x.2.2.2.2.2.2.2.2.2.2.2.2.2.2.2.2.2.2.2.2.2.2.2.2.2.1 x.2.2.2.2.2.2.2.2.2.2.2.2.2.2.2.2.2.2.2.2.2.2.2.2.2.2.1 x.2.2.2.2.2.2.2.2.2.2.2.2.2.2.2.2.2.2.2.2.2.2.2.2.2.2.2) FUEL x
noncomputable def q_check_scope_cond_186_0 : Nat → Tm → Prog (Nat × Tm) := (varP 4 (fun T h => (rdS s_check_scope_cond_186_0_0 T h).map fl_check_scope_cond_186_0_0) L_check_scope_cond_186_0_0 (fun y => .alt y (altE 2 x_check_scope_cond_186_0_0_0 un_check_scope_cond_186_0_0_0) (altE 1 x_check_scope_cond_186_0_0_1 un_check_scope_cond_186_0_0_1)) (fun _ _ => .fail))
noncomputable def lc_check_scope_cond_186_0 : Lpc := ⟨186, 0, 19, (fun base T => .norm base (kp_check_scope_cond_186_0 0) T (q_check_scope_cond_186_0 base)), by kernel_rfl, by kernel_rfl, (loopU sp_check_scope_cond [lc_check_scope_cond_185_0] 40 (1048576 ^ 9) 8 (keep := kp_check_scope_cond_186_0) (q := q_check_scope_cond_186_0) (by kernel_rfl) (varX_ok (s := s_check_scope_cond_186_0_0) (un := un_check_scope_cond_186_0_0) (by rfl) (fun _ => rfl) (getOr_ok (getE_ok (s := x_check_scope_cond_186_0_0_0) (un := un_check_scope_cond_186_0_0_0) (by rfl) (fun _ => rfl)) (getE_ok (s := x_check_scope_cond_186_0_0_1) (un := un_check_scope_cond_186_0_0_1) (by rfl) (fun _ => rfl))) (step := sx_check_scope_cond_186_0_0) rn_check_scope_cond_186_0_0 (fun _ _ e => ⟨_, e⟩) (altOr_ok (altE_ok 2 x_check_scope_cond_186_0_0_0 un_check_scope_cond_186_0_0_0) (altE_ok 1 x_check_scope_cond_186_0_0_1 un_check_scope_cond_186_0_0_1)) (VarOk.fail _ _)))⟩
noncomputable def g_check_scope_cond (a0 : (Pg × Th)) (a1 : Cd) : Option Bool :=
  optC
 (L_check_scope_cond_185_0_0
 (a1.2.2.1, (↑(List.length a1.2.2.1) : Int), 0, a0.1.1, a0.1.2.1, a0.1.2.2.1, a0.1.2.2.2, a0.2.1, a0.2.2.1, a0.2.2.2, a1.1, a1.2.1,
 a1.2.2.1, a1.2.2.2, a0.1.1, a0.1.2.1, a0.1.2.2.1, a0.1.2.2.2, a0.2))
 none fun d6 ↦
 Sum.elim
 (fun e7 ↦
 optC
 (L_check_scope_cond_186_0_0
 (e7.2.2.2.2.2.2.2.2.2.2.1, (↑e7.2.2.2.2.2.2.2.2.2.2.1.length : Int), 0, e7.2.2.2.2.2.2.2.2.2.2.2.1,
 e7.2.2.2.2.2.2.2.2.2.2.2.2.1, e7.2.2.2.2.2.2.2.2.2.2.2.2.2.1, e7.2.2.2.2.2.2.2.2.2.2.2.2.2.2.1,
 e7.2.2.2.2.2.2.2.2.2.2.2.2.2.2.2.1, e7.2.2.2.2.2.2.2.2.2.2.2.2.2.2.2.2.1,
 e7.2.2.2.2.2.2.2.2.2.2.2.2.2.2.2.2.2, e7))
 none fun d8 ↦ Sum.elim (fun e9 ↦ some !decide (-1 ≥ 0)) (fun e9 ↦ some !decide (e9.1 ≥ 0)) d8)
 (fun e7 ↦
 bif !decide (e7.1 ≥ 0) then
 optC
 (L_check_scope_cond_186_0_0
 (e7.2.2.2.2.2.2.2.2.2.2.2.1, (↑e7.2.2.2.2.2.2.2.2.2.2.2.1.length : Int), 0, e7.2.2.2.2.2.2.2.2.2.2.2.2.1,
 e7.2.2.2.2.2.2.2.2.2.2.2.2.2.1, e7.2.2.2.2.2.2.2.2.2.2.2.2.2.2.1,
 e7.2.2.2.2.2.2.2.2.2.2.2.2.2.2.2.1, e7.2.2.2.2.2.2.2.2.2.2.2.2.2.2.2.2.1,
 e7.2.2.2.2.2.2.2.2.2.2.2.2.2.2.2.2.2.1, e7.2.2.2.2.2.2.2.2.2.2.2.2.2.2.2.2.2.2, e7.2))
 none fun d8 ↦ Sum.elim (fun e9 ↦ some !decide (-1 ≥ 0)) (fun e9 ↦ some !decide (e9.1 ≥ 0)) d8
 else some false)
 d6
theorem raw_check_scope_cond (a0 : (Pg × Th)) (a1 : Cd) : evGX1 (cxU sp_check_scope_cond [lc_check_scope_cond_185_0, lc_check_scope_cond_186_0] 40 (1048576 ^ 9)) keeps 8 95 ash_check_scope_cond (.dat .bool) ((a0, a1, ()) : ((Pg × Th) × (Cd × Unit))) = g_check_scope_cond a0 a1 := by kernel_rfl
noncomputable def GI_check_scope_cond (x : ((Pg × Th) × (Cd × Unit))) : Option Bool := g_check_scope_cond x.1 x.2.1
noncomputable def conI_check_scope_cond : List AV → Prog AV := conP true ash_check_scope_cond (.dat .bool) GI_check_scope_cond
theorem sndI_check_scope_cond : SoundA Tryz.prog 95 conI_check_scope_cond := conP_sound (evF1_sound (tabOk_of tab_ok) (cmpsOk_of tab_ok cmps_ok) mixed (inU sp_check_scope_cond [lc_check_scope_cond_185_0, lc_check_scope_cond_186_0] 40 (1048576 ^ 9)) (hspL sp_check_scope_cond) keeps 8 95) true (by rfl) (by rfl) (fun x r e => (evGX1_eq _ _ _ _ _ _ _).trans ((raw_check_scope_cond x.1 x.2.1).trans e)) (.inl rfl)
end
noncomputable def it_check_scope_cond : Nat → {K : ((Pg × Th) × (Cd × Unit)) → Option Bool // SoundA Tryz.prog 95 (conP true ash_check_scope_cond (.dat .bool) K)}
  | 0 => ⟨fun _ => none, conP_none⟩
  | k + 1 => letI : Rec_check_scope_cond := ⟨(it_check_scope_cond k).1, (it_check_scope_cond k).2⟩; ⟨GI_check_scope_cond, sndI_check_scope_cond⟩
noncomputable def G_check_scope_cond (x : ((Pg × Th) × (Cd × Unit))) : Option Bool := (it_check_scope_cond (SizeOf.sizeOf x + 1)).1 x
noncomputable def con_check_scope_cond : List AV → Prog AV := conP true ash_check_scope_cond (.dat .bool) G_check_scope_cond
theorem snd_check_scope_cond : SoundA Tryz.prog 95 con_check_scope_cond := conP_pick (sh := ash_check_scope_cond) (rs := .dat .bool) (n := fun x : ((Pg × Th) × (Cd × Unit)) => SizeOf.sizeOf x + 1) (F := fun k => (it_check_scope_cond k).1) (fun k => (it_check_scope_cond k).2)
end Go.Proofs.YtmjbedjnojcmfaaGreatDoor.Ex

