/- A part of the proofs of which programs may be: QG. -/
import Derived.Test.YtmjbedjnojcmfaaDoorQF
import Derived.Test.YtmjbedjnojcmfaaDoorQD
namespace Go.Proofs.YtmjbedjnojcmfaaDoor.Ex
open Go.Proofs Go.Proofs.YtmjbedjnojcmfaaDoor
set_option maxRecDepth 100000
set_option maxHeartbeats 2000000
set_option linter.unusedVariables false
set_option linter.unusedSimpArgs false
def ash_check_scope_cond : List Sh := [.dat (.st (.pair tPg tTh)), .dat tCd]
def kp_check_scope_cond_96_0 : Nat → List Nat := fun c => bif c.beq 0 then [0, 1, 7, 8] else [4]
def kp_check_scope_cond_97_0 : Nat → List Nat := fun c => bif c.beq 0 then [0, 1, 7, 8] else [4]
class Rec_check_scope_cond where
  K : ((Pg × Th) × (Cd × Unit)) → Option Bool
  s : SoundA Tryd.prog 41 (conP true ash_check_scope_cond (.dat .bool) K)
section
variable [Rec_check_scope_cond]
noncomputable def sp_check_scope_cond : List Con := [⟨39, con_check_scope_expr, snd_check_scope_expr⟩, ⟨41, (conP true ash_check_scope_cond (.dat .bool) Rec_check_scope_cond.K), Rec_check_scope_cond.s⟩]
def s_check_scope_cond_96_0_0 : StS := ⟨[(0, .sl (.mu 0)), (1, .clo 87 [] [.ptr 2 0]), (7, .int .i64), (8, .int .i64)], [(2, .box [.clo 39 [.agg [.sl tGb, .sl tGb, .sl .str, .sl tTh, .str, .sl .str, .sl (.mu 2)]] []]), (1, .box [.int .i64, .int .i64, .sl (.mu 0), .sl (.mu 1)]), (0, .box [.sl tGb, .sl tGb, .sl .str, .sl tTh, .str, .sl .str, .sl (.mu 2)])], 3⟩
def x_check_scope_cond_96_0_0_0 : StS := ⟨[(4, .undef)], [(2, .box [.clo 39 [.agg [.sl tGb, .sl tGb, .sl .str, .sl tTh, .str, .sl .str, .sl (.mu 2)]] []]), (1, .box [.int .i64, .int .i64, .sl (.mu 0), .sl (.mu 1)]), (0, .box [.sl tGb, .sl tGb, .sl .str, .sl tTh, .str, .sl .str, .sl (.mu 2)])], 3⟩
def x_check_scope_cond_96_0_0_1 : StS := ⟨[(4, .int .i64)], [(2, .box [.clo 39 [.agg [.sl tGb, .sl tGb, .sl .str, .sl tTh, .str, .sl .str, .sl (.mu 2)]] []]), (1, .box [.int .i64, .int .i64, .sl (.mu 0), .sl (.mu 1)]), (0, .box [.sl tGb, .sl tGb, .sl .str, .sl tTh, .str, .sl .str, .sl (.mu 2)])], 3⟩
abbrev X_check_scope_cond_96_0_0 := ((List (RT.C 0)) × Int × Int × (List Gb) × (List Gb) × (List ByteArray) × (List Th) × ByteArray × (List ByteArray) × (List (RT.C 2)) × Int × Int × (List (RT.C 0)) × (List (RT.C 1)) × (List Gb) × (List Gb) × (List ByteArray) × (List Th) × ByteArray × (List ByteArray) × (List (RT.C 2)))
def fl_check_scope_cond_96_0_0 (d : StD s_check_scope_cond_96_0_0) : X_check_scope_cond_96_0_0 := (d.1.1, d.1.2.2.1, d.1.2.2.2.1, d.2.1.1.1.1.1, d.2.1.1.1.1.2.1, d.2.1.1.1.1.2.2.1, d.2.1.1.1.1.2.2.2.1, d.2.1.1.1.1.2.2.2.2.1, d.2.1.1.1.1.2.2.2.2.2.1, d.2.1.1.1.1.2.2.2.2.2.2.1, d.2.2.1.1, d.2.2.1.2.1, d.2.2.1.2.2.1, d.2.2.1.2.2.2.1, d.2.2.2.1.1, d.2.2.2.1.2.1, d.2.2.2.1.2.2.1, d.2.2.2.1.2.2.2.1, d.2.2.2.1.2.2.2.2.1, d.2.2.2.1.2.2.2.2.2.1, d.2.2.2.1.2.2.2.2.2.2.1)
def un_check_scope_cond_96_0_0 (x : X_check_scope_cond_96_0_0) : StD s_check_scope_cond_96_0_0 := ((x.1, ((), ((), ())), x.2.1, x.2.2.1, ()), (((((x.2.2.2.1, x.2.2.2.2.1, x.2.2.2.2.2.1, x.2.2.2.2.2.2.1, x.2.2.2.2.2.2.2.1, x.2.2.2.2.2.2.2.2.1, x.2.2.2.2.2.2.2.2.2.1, ()), ()), ()), ()), (x.2.2.2.2.2.2.2.2.2.2.1, x.2.2.2.2.2.2.2.2.2.2.2.1, x.2.2.2.2.2.2.2.2.2.2.2.2.1, x.2.2.2.2.2.2.2.2.2.2.2.2.2.1, ()), (x.2.2.2.2.2.2.2.2.2.2.2.2.2.2.1, x.2.2.2.2.2.2.2.2.2.2.2.2.2.2.2.1, x.2.2.2.2.2.2.2.2.2.2.2.2.2.2.2.2.1, x.2.2.2.2.2.2.2.2.2.2.2.2.2.2.2.2.2.1, x.2.2.2.2.2.2.2.2.2.2.2.2.2.2.2.2.2.2.1, x.2.2.2.2.2.2.2.2.2.2.2.2.2.2.2.2.2.2.2.1, x.2.2.2.2.2.2.2.2.2.2.2.2.2.2.2.2.2.2.2.2, ()), ()))
abbrev X_check_scope_cond_96_0_0_0 := ((List Gb) × (List Gb) × (List ByteArray) × (List Th) × ByteArray × (List ByteArray) × (List (RT.C 2)) × Int × Int × (List (RT.C 0)) × (List (RT.C 1)) × (List Gb) × (List Gb) × (List ByteArray) × (List Th) × ByteArray × (List ByteArray) × (List (RT.C 2)))
def fl_check_scope_cond_96_0_0_0 (d : StD x_check_scope_cond_96_0_0_0) : X_check_scope_cond_96_0_0_0 := (d.2.1.1.1.1.1, d.2.1.1.1.1.2.1, d.2.1.1.1.1.2.2.1, d.2.1.1.1.1.2.2.2.1, d.2.1.1.1.1.2.2.2.2.1, d.2.1.1.1.1.2.2.2.2.2.1, d.2.1.1.1.1.2.2.2.2.2.2.1, d.2.2.1.1, d.2.2.1.2.1, d.2.2.1.2.2.1, d.2.2.1.2.2.2.1, d.2.2.2.1.1, d.2.2.2.1.2.1, d.2.2.2.1.2.2.1, d.2.2.2.1.2.2.2.1, d.2.2.2.1.2.2.2.2.1, d.2.2.2.1.2.2.2.2.2.1, d.2.2.2.1.2.2.2.2.2.2.1)
def un_check_scope_cond_96_0_0_0 (x : X_check_scope_cond_96_0_0_0) : StD x_check_scope_cond_96_0_0_0 := (((), ()), (((((x.1, x.2.1, x.2.2.1, x.2.2.2.1, x.2.2.2.2.1, x.2.2.2.2.2.1, x.2.2.2.2.2.2.1, ()), ()), ()), ()), (x.2.2.2.2.2.2.2.1, x.2.2.2.2.2.2.2.2.1, x.2.2.2.2.2.2.2.2.2.1, x.2.2.2.2.2.2.2.2.2.2.1, ()), (x.2.2.2.2.2.2.2.2.2.2.2.1, x.2.2.2.2.2.2.2.2.2.2.2.2.1, x.2.2.2.2.2.2.2.2.2.2.2.2.2.1, x.2.2.2.2.2.2.2.2.2.2.2.2.2.2.1, x.2.2.2.2.2.2.2.2.2.2.2.2.2.2.2.1, x.2.2.2.2.2.2.2.2.2.2.2.2.2.2.2.2.1, x.2.2.2.2.2.2.2.2.2.2.2.2.2.2.2.2.2, ()), ()))
abbrev X_check_scope_cond_96_0_0_1 := (Int × (List Gb) × (List Gb) × (List ByteArray) × (List Th) × ByteArray × (List ByteArray) × (List (RT.C 2)) × Int × Int × (List (RT.C 0)) × (List (RT.C 1)) × (List Gb) × (List Gb) × (List ByteArray) × (List Th) × ByteArray × (List ByteArray) × (List (RT.C 2)))
def fl_check_scope_cond_96_0_0_1 (d : StD x_check_scope_cond_96_0_0_1) : X_check_scope_cond_96_0_0_1 := (d.1.1, d.2.1.1.1.1.1, d.2.1.1.1.1.2.1, d.2.1.1.1.1.2.2.1, d.2.1.1.1.1.2.2.2.1, d.2.1.1.1.1.2.2.2.2.1, d.2.1.1.1.1.2.2.2.2.2.1, d.2.1.1.1.1.2.2.2.2.2.2.1, d.2.2.1.1, d.2.2.1.2.1, d.2.2.1.2.2.1, d.2.2.1.2.2.2.1, d.2.2.2.1.1, d.2.2.2.1.2.1, d.2.2.2.1.2.2.1, d.2.2.2.1.2.2.2.1, d.2.2.2.1.2.2.2.2.1, d.2.2.2.1.2.2.2.2.2.1, d.2.2.2.1.2.2.2.2.2.2.1)
def un_check_scope_cond_96_0_0_1 (x : X_check_scope_cond_96_0_0_1) : StD x_check_scope_cond_96_0_0_1 := ((x.1, ()), (((((x.2.1, x.2.2.1, x.2.2.2.1, x.2.2.2.2.1, x.2.2.2.2.2.1, x.2.2.2.2.2.2.1, x.2.2.2.2.2.2.2.1, ()), ()), ()), ()), (x.2.2.2.2.2.2.2.2.1, x.2.2.2.2.2.2.2.2.2.1, x.2.2.2.2.2.2.2.2.2.2.1, x.2.2.2.2.2.2.2.2.2.2.2.1, ()), (x.2.2.2.2.2.2.2.2.2.2.2.2.1, x.2.2.2.2.2.2.2.2.2.2.2.2.2.1, x.2.2.2.2.2.2.2.2.2.2.2.2.2.2.1, x.2.2.2.2.2.2.2.2.2.2.2.2.2.2.2.1, x.2.2.2.2.2.2.2.2.2.2.2.2.2.2.2.2.1, x.2.2.2.2.2.2.2.2.2.2.2.2.2.2.2.2.2.1, x.2.2.2.2.2.2.2.2.2.2.2.2.2.2.2.2.2.2, ()), ()))
noncomputable def st_check_scope_cond_96_0_0 (s0 : (List (RT.C 0))) (s7 : Int) (s8 : Int) (b2 : (List Gb)) (b2_1 : (List Gb)) (b2_2 : (List ByteArray)) (b2_3 : (List Th)) (b2_4 : ByteArray) (b2_5 : (List ByteArray)) (b2_6 : (List (RT.C 2))) (b1 : Int) (b1_1 : Int) (b1_2 : (List (RT.C 0))) (b1_3 : (List (RT.C 1))) (b0 : (List Gb)) (b0_1 : (List Gb)) (b0_2 : (List ByteArray)) (b0_3 : (List Th)) (b0_4 : ByteArray) (b0_5 : (List ByteArray)) (b0_6 : (List (RT.C 2))) : Option (((List (RT.C 0)) × Int × Int × (List Gb) × (List Gb) × (List ByteArray) × (List Th) × ByteArray × (List ByteArray) × (List (RT.C 2)) × Int × Int × (List (RT.C 0)) × (List (RT.C 1)) × (List Gb) × (List Gb) × (List ByteArray) × (List Th) × ByteArray × (List ByteArray) × (List (RT.C 2))) ⊕ (((List Gb) × (List Gb) × (List ByteArray) × (List Th) × ByteArray × (List ByteArray) × (List (RT.C 2)) × Int × Int × (List (RT.C 0)) × (List (RT.C 1)) × (List Gb) × (List Gb) × (List ByteArray) × (List Th) × ByteArray × (List ByteArray) × (List (RT.C 2))) ⊕ (Int × (List Gb) × (List Gb) × (List ByteArray) × (List Th) × ByteArray × (List ByteArray) × (List (RT.C 2)) × Int × Int × (List (RT.C 0)) × (List (RT.C 1)) × (List Gb) × (List Gb) × (List ByteArray) × (List Th) × ByteArray × (List ByteArray) × (List (RT.C 2))))) :=
  bif decide (s8 < s7) then
 bif decide (0 ≤ s8) then
 optC s0[s8.toNat]? none fun d25 ↦
 optC (G_check_scope_expr (((b2, b2_1, b2_2, b2_3), b2_4, b2_5, b2_6), uT0 d25, ())) none fun d26 ↦
 bif !d26 then some (Sum.inr (Sum.inr (s8, b2, b2_1, b2_2, b2_3, b2_4, b2_5, b2_6, b1, b1_1, b1_2, b1_3, b0, b0_1, b0_2, b0_3, b0_4, b0_5, b0_6)))
 else some (Sum.inl (s0, s7, Go.IntKind.i64.wrap (s8 + 1), b2, b2_1, b2_2, b2_3, b2_4, b2_5, b2_6, b1, b1_1, b1_2, b1_3, b0, b0_1, b0_2, b0_3, b0_4, b0_5, b0_6))
 else none
 else some (Sum.inr (Sum.inl (b2, b2_1, b2_2, b2_3, b2_4, b2_5, b2_6, b1, b1_1, b1_2, b1_3, b0, b0_1, b0_2, b0_3, b0_4, b0_5, b0_6)))
noncomputable def sx_check_scope_cond_96_0_0 (x : X_check_scope_cond_96_0_0) : Option (X_check_scope_cond_96_0_0 ⊕ (X_check_scope_cond_96_0_0_0 ⊕ X_check_scope_cond_96_0_0_1)) := st_check_scope_cond_96_0_0 x.1 x.2.1 x.2.2.1 x.2.2.2.1 x.2.2.2.2.1 x.2.2.2.2.2.1 x.2.2.2.2.2.2.1 x.2.2.2.2.2.2.2.1 x.2.2.2.2.2.2.2.2.1 x.2.2.2.2.2.2.2.2.2.1 x.2.2.2.2.2.2.2.2.2.2.1 x.2.2.2.2.2.2.2.2.2.2.2.1 x.2.2.2.2.2.2.2.2.2.2.2.2.1 x.2.2.2.2.2.2.2.2.2.2.2.2.2.1 x.2.2.2.2.2.2.2.2.2.2.2.2.2.2.1 x.2.2.2.2.2.2.2.2.2.2.2.2.2.2.2.1 x.2.2.2.2.2.2.2.2.2.2.2.2.2.2.2.2.1 x.2.2.2.2.2.2.2.2.2.2.2.2.2.2.2.2.2.1 x.2.2.2.2.2.2.2.2.2.2.2.2.2.2.2.2.2.2.1 x.2.2.2.2.2.2.2.2.2.2.2.2.2.2.2.2.2.2.2.1 x.2.2.2.2.2.2.2.2.2.2.2.2.2.2.2.2.2.2.2.2
theorem rn_check_scope_cond_96_0_0 (x : X_check_scope_cond_96_0_0) : rdX (cxU sp_check_scope_cond [] 40 (1048576 ^ 9)) keeps 8 ⟨96, 19, keeps 96, 3⟩ 0 (bodyX 96 0) 3 kp_check_scope_cond_96_0 (sT s_check_scope_cond_96_0_0 (un_check_scope_cond_96_0_0 x)) (sH s_check_scope_cond_96_0_0 (un_check_scope_cond_96_0_0 x)) (rdO (fun T h => (rdS s_check_scope_cond_96_0_0 T h).map fl_check_scope_cond_96_0_0) (getOr (getE 2 x_check_scope_cond_96_0_0_0 fl_check_scope_cond_96_0_0_0) (getE 1 x_check_scope_cond_96_0_0_1 fl_check_scope_cond_96_0_0_1))) = sx_check_scope_cond_96_0_0 x := by kernel_rfl
noncomputable def L_check_scope_cond_96_0_0 (x : X_check_scope_cond_96_0_0) : Option (X_check_scope_cond_96_0_0_0 ⊕ X_check_scope_cond_96_0_0_1) := iterO (fun x => st_check_scope_cond_96_0_0 x.1 x.2.1 x.2.2.1 x.2.2.2.1 x.2.2.2.2.1 x.2.2.2.2.2.1 x.2.2.2.2.2.2.1 x.2.2.2.2.2.2.2.1 x.2.2.2.2.2.2.2.2.1 x.2.2.2.2.2.2.2.2.2.1 x.2.2.2.2.2.2.2.2.2.2.1 x.2.2.2.2.2.2.2.2.2.2.2.1 x.2.2.2.2.2.2.2.2.2.2.2.2.1 x.2.2.2.2.2.2.2.2.2.2.2.2.2.1 x.2.2.2.2.2.2.2.2.2.2.2.2.2.2.1 x.2.2.2.2.2.2.2.2.2.2.2.2.2.2.2.1 x.2.2.2.2.2.2.2.2.2.2.2.2.2.2.2.2.1 x.2.2.2.2.2.2.2.2.2.2.2.2.2.2.2.2.2.1 x.2.2.2.2.2.2.2.2.2.2.2.2.2.2.2.2.2.2.1 x.2.2.2.2.2.2.2.2.2.2.2.2.2.2.2.2.2.2.2.1 x.2.2.2.2.2.2.2.2.2.2.2.2.2.2.2.2.2.2.2.2) FUEL x
noncomputable def q_check_scope_cond_96_0 : Nat → Tm → Prog (Nat × Tm) := (varP 3 (fun T h => (rdS s_check_scope_cond_96_0_0 T h).map fl_check_scope_cond_96_0_0) L_check_scope_cond_96_0_0 (fun y => .alt y (altE 2 x_check_scope_cond_96_0_0_0 un_check_scope_cond_96_0_0_0) (altE 1 x_check_scope_cond_96_0_0_1 un_check_scope_cond_96_0_0_1)) (fun _ _ => .fail))
noncomputable def lc_check_scope_cond_96_0 : Lpc := ⟨96, 0, 19, (fun base T => .norm base (kp_check_scope_cond_96_0 0) T (q_check_scope_cond_96_0 base)), by kernel_rfl, by kernel_rfl, (loopU sp_check_scope_cond [] 40 (1048576 ^ 9) 8 (keep := kp_check_scope_cond_96_0) (q := q_check_scope_cond_96_0) (by kernel_rfl) (varX_ok (s := s_check_scope_cond_96_0_0) (un := un_check_scope_cond_96_0_0) (by rfl) (fun _ => rfl) (getOr_ok (getE_ok (s := x_check_scope_cond_96_0_0_0) (un := un_check_scope_cond_96_0_0_0) (by rfl) (fun _ => rfl)) (getE_ok (s := x_check_scope_cond_96_0_0_1) (un := un_check_scope_cond_96_0_0_1) (by rfl) (fun _ => rfl))) (step := sx_check_scope_cond_96_0_0) rn_check_scope_cond_96_0_0 (fun _ _ e => ⟨_, e⟩) (altOr_ok (altE_ok 2 x_check_scope_cond_96_0_0_0 un_check_scope_cond_96_0_0_0) (altE_ok 1 x_check_scope_cond_96_0_0_1 un_check_scope_cond_96_0_0_1)) (VarOk.fail _ _)))⟩
noncomputable abbrev cx_check_scope_cond_97_0 := cxU sp_check_scope_cond [lc_check_scope_cond_96_0] 40 (1048576 ^ 9)
def s_check_scope_cond_97_0_0 : StS := ⟨[(0, .sl (.mu 1)), (1, .clo 89 [] [.ptr 3 0]), (7, .int .i64), (8, .int .i64)], [(3, .box [.clo 41 [.agg [.sl tGb, .sl tGb, .sl .str, .sl tTh, .str, .sl .str, .sl (.mu 2)]] []]), (2, .box [.clo 39 [.agg [.sl tGb, .sl tGb, .sl .str, .sl tTh, .str, .sl .str, .sl (.mu 2)]] []]), (1, .box [.int .i64, .int .i64, .sl (.mu 0), .sl (.mu 1)]), (0, .box [.sl tGb, .sl tGb, .sl .str, .sl tTh, .str, .sl .str, .sl (.mu 2)])], 4⟩
def x_check_scope_cond_97_0_0_0 : StS := ⟨[(4, .undef)], [(3, .box [.clo 41 [.agg [.sl tGb, .sl tGb, .sl .str, .sl tTh, .str, .sl .str, .sl (.mu 2)]] []]), (2, .box [.clo 39 [.agg [.sl tGb, .sl tGb, .sl .str, .sl tTh, .str, .sl .str, .sl (.mu 2)]] []]), (1, .box [.int .i64, .int .i64, .sl (.mu 0), .sl (.mu 1)]), (0, .box [.sl tGb, .sl tGb, .sl .str, .sl tTh, .str, .sl .str, .sl (.mu 2)])], 4⟩
def x_check_scope_cond_97_0_0_1 : StS := ⟨[(4, .int .i64)], [(3, .box [.clo 41 [.agg [.sl tGb, .sl tGb, .sl .str, .sl tTh, .str, .sl .str, .sl (.mu 2)]] []]), (2, .box [.clo 39 [.agg [.sl tGb, .sl tGb, .sl .str, .sl tTh, .str, .sl .str, .sl (.mu 2)]] []]), (1, .box [.int .i64, .int .i64, .sl (.mu 0), .sl (.mu 1)]), (0, .box [.sl tGb, .sl tGb, .sl .str, .sl tTh, .str, .sl .str, .sl (.mu 2)])], 4⟩
abbrev X_check_scope_cond_97_0_0 := ((List (RT.C 1)) × Int × Int × (List Gb) × (List Gb) × (List ByteArray) × (List Th) × ByteArray × (List ByteArray) × (List (RT.C 2)) × (List Gb) × (List Gb) × (List ByteArray) × (List Th) × ByteArray × (List ByteArray) × (List (RT.C 2)) × Int × Int × (List (RT.C 0)) × (List (RT.C 1)) × (List Gb) × (List Gb) × (List ByteArray) × (List Th) × ByteArray × (List ByteArray) × (List (RT.C 2)))
def fl_check_scope_cond_97_0_0 (d : StD s_check_scope_cond_97_0_0) : X_check_scope_cond_97_0_0 := (d.1.1, d.1.2.2.1, d.1.2.2.2.1, d.2.1.1.1.1.1, d.2.1.1.1.1.2.1, d.2.1.1.1.1.2.2.1, d.2.1.1.1.1.2.2.2.1, d.2.1.1.1.1.2.2.2.2.1, d.2.1.1.1.1.2.2.2.2.2.1, d.2.1.1.1.1.2.2.2.2.2.2.1, d.2.2.1.1.1.1.1, d.2.2.1.1.1.1.2.1, d.2.2.1.1.1.1.2.2.1, d.2.2.1.1.1.1.2.2.2.1, d.2.2.1.1.1.1.2.2.2.2.1, d.2.2.1.1.1.1.2.2.2.2.2.1, d.2.2.1.1.1.1.2.2.2.2.2.2.1, d.2.2.2.1.1, d.2.2.2.1.2.1, d.2.2.2.1.2.2.1, d.2.2.2.1.2.2.2.1, d.2.2.2.2.1.1, d.2.2.2.2.1.2.1, d.2.2.2.2.1.2.2.1, d.2.2.2.2.1.2.2.2.1, d.2.2.2.2.1.2.2.2.2.1, d.2.2.2.2.1.2.2.2.2.2.1, d.2.2.2.2.1.2.2.2.2.2.2.1)
def un_check_scope_cond_97_0_0 (x : X_check_scope_cond_97_0_0) : StD s_check_scope_cond_97_0_0 := ((x.1, ((), ((), ())), x.2.1, x.2.2.1, ()), (((((x.2.2.2.1, x.2.2.2.2.1, x.2.2.2.2.2.1, x.2.2.2.2.2.2.1, x.2.2.2.2.2.2.2.1, x.2.2.2.2.2.2.2.2.1, x.2.2.2.2.2.2.2.2.2.1, ()), ()), ()), ()), ((((x.2.2.2.2.2.2.2.2.2.2.1, x.2.2.2.2.2.2.2.2.2.2.2.1, x.2.2.2.2.2.2.2.2.2.2.2.2.1, x.2.2.2.2.2.2.2.2.2.2.2.2.2.1, x.2.2.2.2.2.2.2.2.2.2.2.2.2.2.1, x.2.2.2.2.2.2.2.2.2.2.2.2.2.2.2.1, x.2.2.2.2.2.2.2.2.2.2.2.2.2.2.2.2.1, ()), ()), ()), ()), (x.2.2.2.2.2.2.2.2.2.2.2.2.2.2.2.2.2.1, x.2.2.2.2.2.2.2.2.2.2.2.2.2.2.2.2.2.2.1, x.2.2.2.2.2.2.2.2.2.2.2.2.2.2.2.2.2.2.2.1, x.2.2.2.2.2.2.2.2.2.2.2.2.2.2.2.2.2.2.2.2.1, ()), (x.2.2.2.2.2.2.2.2.2.2.2.2.2.2.2.2.2.2.2.2.2.1, x.2.2.2.2.2.2.2.2.2.2.2.2.2.2.2.2.2.2.2.2.2.2.1, x.2.2.2.2.2.2.2.2.2.2.2.2.2.2.2.2.2.2.2.2.2.2.2.1, x.2.2.2.2.2.2.2.2.2.2.2.2.2.2.2.2.2.2.2.2.2.2.2.2.1, x.2.2.2.2.2.2.2.2.2.2.2.2.2.2.2.2.2.2.2.2.2.2.2.2.2.1, x.2.2.2.2.2.2.2.2.2.2.2.2.2.2.2.2.2.2.2.2.2.2.2.2.2.2.1, x.2.2.2.2.2.2.2.2.2.2.2.2.2.2.2.2.2.2.2.2.2.2.2.2.2.2.2, ()), ()))
abbrev X_check_scope_cond_97_0_0_0 := ((List Gb) × (List Gb) × (List ByteArray) × (List Th) × ByteArray × (List ByteArray) × (List (RT.C 2)) × (List Gb) × (List Gb) × (List ByteArray) × (List Th) × ByteArray × (List ByteArray) × (List (RT.C 2)) × Int × Int × (List (RT.C 0)) × (List (RT.C 1)) × (List Gb) × (List Gb) × (List ByteArray) × (List Th) × ByteArray × (List ByteArray) × (List (RT.C 2)))
def fl_check_scope_cond_97_0_0_0 (d : StD x_check_scope_cond_97_0_0_0) : X_check_scope_cond_97_0_0_0 := (d.2.1.1.1.1.1, d.2.1.1.1.1.2.1, d.2.1.1.1.1.2.2.1, d.2.1.1.1.1.2.2.2.1, d.2.1.1.1.1.2.2.2.2.1, d.2.1.1.1.1.2.2.2.2.2.1, d.2.1.1.1.1.2.2.2.2.2.2.1, d.2.2.1.1.1.1.1, d.2.2.1.1.1.1.2.1, d.2.2.1.1.1.1.2.2.1, d.2.2.1.1.1.1.2.2.2.1, d.2.2.1.1.1.1.2.2.2.2.1, d.2.2.1.1.1.1.2.2.2.2.2.1, d.2.2.1.1.1.1.2.2.2.2.2.2.1, d.2.2.2.1.1, d.2.2.2.1.2.1, d.2.2.2.1.2.2.1, d.2.2.2.1.2.2.2.1, d.2.2.2.2.1.1, d.2.2.2.2.1.2.1, d.2.2.2.2.1.2.2.1, d.2.2.2.2.1.2.2.2.1, d.2.2.2.2.1.2.2.2.2.1, d.2.2.2.2.1.2.2.2.2.2.1, d.2.2.2.2.1.2.2.2.2.2.2.1)
def un_check_scope_cond_97_0_0_0 (x : X_check_scope_cond_97_0_0_0) : StD x_check_scope_cond_97_0_0_0 := (((), ()), (((((x.1, x.2.1, x.2.2.1, x.2.2.2.1, x.2.2.2.2.1, x.2.2.2.2.2.1, x.2.2.2.2.2.2.1, ()), ()), ()), ()), ((((x.2.2.2.2.2.2.2.1, x.2.2.2.2.2.2.2.2.1, x.2.2.2.2.2.2.2.2.2.1, x.2.2.2.2.2.2.2.2.2.2.1, x.2.2.2.2.2.2.2.2.2.2.2.1, x.2.2.2.2.2.2.2.2.2.2.2.2.1, x.2.2.2.2.2.2.2.2.2.2.2.2.2.1, ()), ()), ()), ()), (x.2.2.2.2.2.2.2.2.2.2.2.2.2.2.1, x.2.2.2.2.2.2.2.2.2.2.2.2.2.2.2.1, x.2.2.2.2.2.2.2.2.2.2.2.2.2.2.2.2.1, x.2.2.2.2.2.2.2.2.2.2.2.2.2.2.2.2.2.1, ()), (x.2.2.2.2.2.2.2.2.2.2.2.2.2.2.2.2.2.2.1, x.2.2.2.2.2.2.2.2.2.2.2.2.2.2.2.2.2.2.2.1, x.2.2.2.2.2.2.2.2.2.2.2.2.2.2.2.2.2.2.2.2.1, x.2.2.2.2.2.2.2.2.2.2.2.2.2.2.2.2.2.2.2.2.2.1, x.2.2.2.2.2.2.2.2.2.2.2.2.2.2.2.2.2.2.2.2.2.2.1, x.2.2.2.2.2.2.2.2.2.2.2.2.2.2.2.2.2.2.2.2.2.2.2.1, x.2.2.2.2.2.2.2.2.2.2.2.2.2.2.2.2.2.2.2.2.2.2.2.2, ()), ()))
abbrev X_check_scope_cond_97_0_0_1 := (Int × (List Gb) × (List Gb) × (List ByteArray) × (List Th) × ByteArray × (List ByteArray) × (List (RT.C 2)) × (List Gb) × (List Gb) × (List ByteArray) × (List Th) × ByteArray × (List ByteArray) × (List (RT.C 2)) × Int × Int × (List (RT.C 0)) × (List (RT.C 1)) × (List Gb) × (List Gb) × (List ByteArray) × (List Th) × ByteArray × (List ByteArray) × (List (RT.C 2)))
def fl_check_scope_cond_97_0_0_1 (d : StD x_check_scope_cond_97_0_0_1) : X_check_scope_cond_97_0_0_1 := (d.1.1, d.2.1.1.1.1.1, d.2.1.1.1.1.2.1, d.2.1.1.1.1.2.2.1, d.2.1.1.1.1.2.2.2.1, d.2.1.1.1.1.2.2.2.2.1, d.2.1.1.1.1.2.2.2.2.2.1, d.2.1.1.1.1.2.2.2.2.2.2.1, d.2.2.1.1.1.1.1, d.2.2.1.1.1.1.2.1, d.2.2.1.1.1.1.2.2.1, d.2.2.1.1.1.1.2.2.2.1, d.2.2.1.1.1.1.2.2.2.2.1, d.2.2.1.1.1.1.2.2.2.2.2.1, d.2.2.1.1.1.1.2.2.2.2.2.2.1, d.2.2.2.1.1, d.2.2.2.1.2.1, d.2.2.2.1.2.2.1, d.2.2.2.1.2.2.2.1, d.2.2.2.2.1.1, d.2.2.2.2.1.2.1, d.2.2.2.2.1.2.2.1, d.2.2.2.2.1.2.2.2.1, d.2.2.2.2.1.2.2.2.2.1, d.2.2.2.2.1.2.2.2.2.2.1, d.2.2.2.2.1.2.2.2.2.2.2.1)
def un_check_scope_cond_97_0_0_1 (x : X_check_scope_cond_97_0_0_1) : StD x_check_scope_cond_97_0_0_1 := ((x.1, ()), (((((x.2.1, x.2.2.1, x.2.2.2.1, x.2.2.2.2.1, x.2.2.2.2.2.1, x.2.2.2.2.2.2.1, x.2.2.2.2.2.2.2.1, ()), ()), ()), ()), ((((x.2.2.2.2.2.2.2.2.1, x.2.2.2.2.2.2.2.2.2.1, x.2.2.2.2.2.2.2.2.2.2.1, x.2.2.2.2.2.2.2.2.2.2.2.1, x.2.2.2.2.2.2.2.2.2.2.2.2.1, x.2.2.2.2.2.2.2.2.2.2.2.2.2.1, x.2.2.2.2.2.2.2.2.2.2.2.2.2.2.1, ()), ()), ()), ()), (x.2.2.2.2.2.2.2.2.2.2.2.2.2.2.2.1, x.2.2.2.2.2.2.2.2.2.2.2.2.2.2.2.2.1, x.2.2.2.2.2.2.2.2.2.2.2.2.2.2.2.2.2.1, x.2.2.2.2.2.2.2.2.2.2.2.2.2.2.2.2.2.2.1, ()), (x.2.2.2.2.2.2.2.2.2.2.2.2.2.2.2.2.2.2.2.1, x.2.2.2.2.2.2.2.2.2.2.2.2.2.2.2.2.2.2.2.2.1, x.2.2.2.2.2.2.2.2.2.2.2.2.2.2.2.2.2.2.2.2.2.1, x.2.2.2.2.2.2.2.2.2.2.2.2.2.2.2.2.2.2.2.2.2.2.1, x.2.2.2.2.2.2.2.2.2.2.2.2.2.2.2.2.2.2.2.2.2.2.2.1, x.2.2.2.2.2.2.2.2.2.2.2.2.2.2.2.2.2.2.2.2.2.2.2.2.1, x.2.2.2.2.2.2.2.2.2.2.2.2.2.2.2.2.2.2.2.2.2.2.2.2.2, ()), ()))
noncomputable def st_check_scope_cond_97_0_0 (s0 : (List (RT.C 1))) (s7 : Int) (s8 : Int) (b3 : (List Gb)) (b3_1 : (List Gb)) (b3_2 : (List ByteArray)) (b3_3 : (List Th)) (b3_4 : ByteArray) (b3_5 : (List ByteArray)) (b3_6 : (List (RT.C 2))) (b2 : (List Gb)) (b2_1 : (List Gb)) (b2_2 : (List ByteArray)) (b2_3 : (List Th)) (b2_4 : ByteArray) (b2_5 : (List ByteArray)) (b2_6 : (List (RT.C 2))) (b1 : Int) (b1_1 : Int) (b1_2 : (List (RT.C 0))) (b1_3 : (List (RT.C 1))) (b0 : (List Gb)) (b0_1 : (List Gb)) (b0_2 : (List ByteArray)) (b0_3 : (List Th)) (b0_4 : ByteArray) (b0_5 : (List ByteArray)) (b0_6 : (List (RT.C 2))) : Option (((List (RT.C 1)) × Int × Int × (List Gb) × (List Gb) × (List ByteArray) × (List Th) × ByteArray × (List ByteArray) × (List (RT.C 2)) × (List Gb) × (List Gb) × (List ByteArray) × (List Th) × ByteArray × (List ByteArray) × (List (RT.C 2)) × Int × Int × (List (RT.C 0)) × (List (RT.C 1)) × (List Gb) × (List Gb) × (List ByteArray) × (List Th) × ByteArray × (List ByteArray) × (List (RT.C 2))) ⊕ (((List Gb) × (List Gb) × (List ByteArray) × (List Th) × ByteArray × (List ByteArray) × (List (RT.C 2)) × (List Gb) × (List Gb) × (List ByteArray) × (List Th) × ByteArray × (List ByteArray) × (List (RT.C 2)) × Int × Int × (List (RT.C 0)) × (List (RT.C 1)) × (List Gb) × (List Gb) × (List ByteArray) × (List Th) × ByteArray × (List ByteArray) × (List (RT.C 2))) ⊕ (Int × (List Gb) × (List Gb) × (List ByteArray) × (List Th) × ByteArray × (List ByteArray) × (List (RT.C 2)) × (List Gb) × (List Gb) × (List ByteArray) × (List Th) × ByteArray × (List ByteArray) × (List (RT.C 2)) × Int × Int × (List (RT.C 0)) × (List (RT.C 1)) × (List Gb) × (List Gb) × (List ByteArray) × (List Th) × ByteArray × (List ByteArray) × (List (RT.C 2))))) :=
  bif decide (s8 < s7) then
 bif decide (0 ≤ s8) then
 optC s0[s8.toNat]? none fun d32 ↦
 optC (Rec_check_scope_cond.K (((b3, b3_1, b3_2, b3_3), b3_4, b3_5, b3_6), uT1 d32, ())) none fun d33 ↦
 bif !d33 then some (Sum.inr (Sum.inr (s8, b3, b3_1, b3_2, b3_3, b3_4, b3_5, b3_6, b2, b2_1, b2_2, b2_3, b2_4, b2_5, b2_6, b1, b1_1, b1_2, b1_3, b0, b0_1, b0_2, b0_3, b0_4, b0_5, b0_6)))
 else
 some
 (Sum.inl
 (s0, s7, Go.IntKind.i64.wrap (s8 + 1), b3, b3_1, b3_2, b3_3, b3_4, b3_5, b3_6, b2, b2_1, b2_2, b2_3, b2_4, b2_5, b2_6, b1, b1_1, b1_2, b1_3, b0, b0_1, b0_2, b0_3, b0_4, b0_5, b0_6))
 else none
 else some (Sum.inr (Sum.inl (b3, b3_1, b3_2, b3_3, b3_4, b3_5, b3_6, b2, b2_1, b2_2, b2_3, b2_4, b2_5, b2_6, b1, b1_1, b1_2, b1_3, b0, b0_1, b0_2, b0_3, b0_4, b0_5, b0_6)))
noncomputable def sx_check_scope_cond_97_0_0 (x : X_check_scope_cond_97_0_0) : Option (X_check_scope_cond_97_0_0 ⊕ (X_check_scope_cond_97_0_0_0 ⊕ X_check_scope_cond_97_0_0_1)) := st_check_scope_cond_97_0_0 x.1 x.2.1 x.2.2.1 x.2.2.2.1 x.2.2.2.2.1 x.2.2.2.2.2.1 x.2.2.2.2.2.2.1 x.2.2.2.2.2.2.2.1 x.2.2.2.2.2.2.2.2.1 x.2.2.2.2.2.2.2.2.2.1 x.2.2.2.2.2.2.2.2.2.2.1 x.2.2.2.2.2.2.2.2.2.2.2.1 x.2.2.2.2.2.2.2.2.2.2.2.2.1 x.2.2.2.2.2.2.2.2.2.2.2.2.2.1 x.2.2.2.2.2.2.2.2.2.2.2.2.2.2.1 x.2.2.2.2.2.2.2.2.2.2.2.2.2.2.2.1 x.2.2.2.2.2.2.2.2.2.2.2.2.2.2.2.2.1 x.2.2.2.2.2.2.2.2.2.2.2.2.2.2.2.2.2.1 x.2.2.2.2.2.2.2.2.2.2.2.2.2.2.2.2.2.2.1 x.2.2.2.2.2.2.2.2.2.2.2.2.2.2.2.2.2.2.2.1 x.2.2.2.2.2.2.2.2.2.2.2.2.2.2.2.2.2.2.2.2.1 x.2.2.2.2.2.2.2.2.2.2.2.2.2.2.2.2.2.2.2.2.2.1 x.2.2.2.2.2.2.2.2.2.2.2.2.2.2.2.2.2.2.2.2.2.2.1 x.2.2.2.2.2.2.2.2.2.2.2.2.2.2.2.2.2.2.2.2.2.2.2.1 x.2.2.2.2.2.2.2.2.2.2.2.2.2.2.2.2.2.2.2.2.2.2.2.2.1 x.2.2.2.2.2.2.2.2.2.2.2.2.2.2.2.2.2.2.2.2.2.2.2.2.2.1 x.2.2.2.2.2.2.2.2.2.2.2.2.2.2.2.2.2.2.2.2.2.2.2.2.2.2.1 x.2.2.2.2.2.2.2.2.2.2.2.2.2.2.2.2.2.2.2.2.2.2.2.2.2.2.2
theorem rn_check_scope_cond_97_0_0 (x : X_check_scope_cond_97_0_0) : rdX cx_check_scope_cond_97_0 keeps 8 ⟨97, 19, keeps 97, 4⟩ 0 (bodyX 97 0) 4 kp_check_scope_cond_97_0 (sT s_check_scope_cond_97_0_0 (un_check_scope_cond_97_0_0 x)) (sH s_check_scope_cond_97_0_0 (un_check_scope_cond_97_0_0 x)) (rdO (fun T h => (rdS s_check_scope_cond_97_0_0 T h).map fl_check_scope_cond_97_0_0) (getOr (getE 2 x_check_scope_cond_97_0_0_0 fl_check_scope_cond_97_0_0_0) (getE 1 x_check_scope_cond_97_0_0_1 fl_check_scope_cond_97_0_0_1))) = sx_check_scope_cond_97_0_0 x := by kernel_rfl
noncomputable def L_check_scope_cond_97_0_0 (x : X_check_scope_cond_97_0_0) : Option (X_check_scope_cond_97_0_0_0 ⊕ X_check_scope_cond_97_0_0_1) := iterO (fun x => st_check_scope_cond_97_0_0 x.1 x.2.1 x.2.2.1 x.2.2.2.1 x.2.2.2.2.1 x.2.2.2.2.2.1 x.2.2.2.2.2.2.1 x.2.2.2.2.2.2.2.1 x.2.2.2.2.2.2.2.2.1 x.2.2.2.2.2.2.2.2.2.1 x.2.2.2.2.2.2.2.2.2.2.1 x.2.2.2.2.2.2.2.2.2.2.2.1 x.2.2.2.2.2.2.2.2.2.2.2.2.1 x.2.2.2.2.2.2.2.2.2.2.2.2.2.1 x.2.2.2.2.2.2.2.2.2.2.2.2.2.2.1 x.2.2.2.2.2.2.2.2.2.2.2.2.2.2.2.1 x.2.2.2.2.2.2.2.2.2.2.2.2.2.2.2.2.1 x.2.2.2.2.2.2.2.2.2.2.2.2.2.2.2.2.2.1 x.2.2.2.2.2.2.2.2.2.2.2.2.2.2.2.2.2.2.1 x.2.2.2.2.2.2.2.2.2.2.2.2.2.2.2.2.2.2.2.1 x.2.2.2.2.2.2.2.2.2.2.2.2.2.2.2.2.2.2.2.2.1 x.2.2.2.2.2.2.2.2.2.2.2.2.2.2.2.2.2.2.2.2.2.1 x.2.2.2.2.2.2.2.2.2.2.2.2.2.2.2.2.2.2.2.2.2.2.1 x.2.2.2.2.2.2.2.2.2.2.2.2.2.2.2.2.2.2.2.2.2.2.2.1 x.2.2.2.2.2.2.2.2.2.2.2.2.2.2.2.2.2.2.2.2.2.2.2.2.1 x.2.2.2.2.2.2.2.2.2.2.2.2.2.2.2.2.2.2.2.2.2.2.2.2.2.1 x.2.2.2.2.2.2.2.2.2.2.2.2.2.2.2.2.2.2.2.2.2.2.2.2.2.2.1 x.2.2.2.2.2.2.2.2.2.2.2.2.2.2.2.2.2.2.2.2.2.2.2.2.2.2.2) FUEL x
noncomputable def q_check_scope_cond_97_0 : Nat → Tm → Prog (Nat × Tm) := (varP 4 (fun T h => (rdS s_check_scope_cond_97_0_0 T h).map fl_check_scope_cond_97_0_0) L_check_scope_cond_97_0_0 (fun y => .alt y (altE 2 x_check_scope_cond_97_0_0_0 un_check_scope_cond_97_0_0_0) (altE 1 x_check_scope_cond_97_0_0_1 un_check_scope_cond_97_0_0_1)) (fun _ _ => .fail))
noncomputable def lc_check_scope_cond_97_0 : Lpc := ⟨97, 0, 19, (fun base T => .norm base (kp_check_scope_cond_97_0 0) T (q_check_scope_cond_97_0 base)), by kernel_rfl, by kernel_rfl, (loopU sp_check_scope_cond [lc_check_scope_cond_96_0] 40 (1048576 ^ 9) 8 (keep := kp_check_scope_cond_97_0) (q := q_check_scope_cond_97_0) (by kernel_rfl) (varX_ok (s := s_check_scope_cond_97_0_0) (un := un_check_scope_cond_97_0_0) (by rfl) (fun _ => rfl) (getOr_ok (getE_ok (s := x_check_scope_cond_97_0_0_0) (un := un_check_scope_cond_97_0_0_0) (by rfl) (fun _ => rfl)) (getE_ok (s := x_check_scope_cond_97_0_0_1) (un := un_check_scope_cond_97_0_0_1) (by rfl) (fun _ => rfl))) (step := sx_check_scope_cond_97_0_0) rn_check_scope_cond_97_0_0 (fun _ _ e => ⟨_, e⟩) (altOr_ok (altE_ok 2 x_check_scope_cond_97_0_0_0 un_check_scope_cond_97_0_0_0) (altE_ok 1 x_check_scope_cond_97_0_0_1 un_check_scope_cond_97_0_0_1)) (VarOk.fail _ _)))⟩
noncomputable def g_check_scope_cond (a0 : (Pg × Th)) (a1 : Cd) : Option Bool :=
  optC
 (L_check_scope_cond_96_0_0
 (a1.2.2.1, (↑(List.length a1.2.2.1) : Int), 0, a0.1.1, a0.1.2.1, a0.1.2.2.1, a0.1.2.2.2, a0.2.1, a0.2.2.1, a0.2.2.2, a1.1, a1.2.1,
 a1.2.2.1, a1.2.2.2, a0.1.1, a0.1.2.1, a0.1.2.2.1, a0.1.2.2.2, a0.2))
 none fun d6 ↦
 Sum.elim
 (fun e7 ↦
 optC
 (L_check_scope_cond_97_0_0
 (e7.2.2.2.2.2.2.2.2.2.2.1, (↑e7.2.2.2.2.2.2.2.2.2.2.1.length : Int), 0, e7.2.2.2.2.2.2.2.2.2.2.2.1,
 e7.2.2.2.2.2.2.2.2.2.2.2.2.1, e7.2.2.2.2.2.2.2.2.2.2.2.2.2.1, e7.2.2.2.2.2.2.2.2.2.2.2.2.2.2.1,
 e7.2.2.2.2.2.2.2.2.2.2.2.2.2.2.2.1, e7.2.2.2.2.2.2.2.2.2.2.2.2.2.2.2.2.1,
 e7.2.2.2.2.2.2.2.2.2.2.2.2.2.2.2.2.2, e7))
 none fun d8 ↦ Sum.elim (fun e9 ↦ some !decide (-1 ≥ 0)) (fun e9 ↦ some !decide (e9.1 ≥ 0)) d8)
 (fun e7 ↦
 bif !decide (e7.1 ≥ 0) then
 optC
 (L_check_scope_cond_97_0_0
 (e7.2.2.2.2.2.2.2.2.2.2.2.1, (↑e7.2.2.2.2.2.2.2.2.2.2.2.1.length : Int), 0, e7.2.2.2.2.2.2.2.2.2.2.2.2.1,
 e7.2.2.2.2.2.2.2.2.2.2.2.2.2.1, e7.2.2.2.2.2.2.2.2.2.2.2.2.2.2.1,
 e7.2.2.2.2.2.2.2.2.2.2.2.2.2.2.2.1, e7.2.2.2.2.2.2.2.2.2.2.2.2.2.2.2.2.1,
 e7.2.2.2.2.2.2.2.2.2.2.2.2.2.2.2.2.2.1, e7.2.2.2.2.2.2.2.2.2.2.2.2.2.2.2.2.2.2, e7.2))
 none fun d8 ↦ Sum.elim (fun e9 ↦ some !decide (-1 ≥ 0)) (fun e9 ↦ some !decide (e9.1 ≥ 0)) d8
 else some false)
 d6
theorem raw_check_scope_cond (a0 : (Pg × Th)) (a1 : Cd) : evGX1 (cxU sp_check_scope_cond [lc_check_scope_cond_96_0, lc_check_scope_cond_97_0] 40 (1048576 ^ 9)) keeps 8 41 ash_check_scope_cond (.dat .bool) ((a0, a1, ()) : ((Pg × Th) × (Cd × Unit))) = g_check_scope_cond a0 a1 := by kernel_rfl
noncomputable def GI_check_scope_cond (x : ((Pg × Th) × (Cd × Unit))) : Option Bool := g_check_scope_cond x.1 x.2.1
noncomputable def conI_check_scope_cond : List AV → Prog AV := conP true ash_check_scope_cond (.dat .bool) GI_check_scope_cond
theorem sndI_check_scope_cond : SoundA Tryd.prog 41 conI_check_scope_cond := conP_sound (evF1_sound (tabOk_of tab_ok) (cmpsOk_of tab_ok cmps_ok) mixed (inU sp_check_scope_cond [lc_check_scope_cond_96_0, lc_check_scope_cond_97_0] 40 (1048576 ^ 9)) (hspL sp_check_scope_cond) keeps 8 41) true (by rfl) (by rfl) (fun x r e => (evGX1_eq _ _ _ _ _ _ _).trans ((raw_check_scope_cond x.1 x.2.1).trans e)) (.inl rfl)
end
noncomputable def it_check_scope_cond : Nat → {K : ((Pg × Th) × (Cd × Unit)) → Option Bool // SoundA Tryd.prog 41 (conP true ash_check_scope_cond (.dat .bool) K)}
  | 0 => ⟨fun _ => none, conP_none⟩
  | k + 1 => letI : Rec_check_scope_cond := ⟨(it_check_scope_cond k).1, (it_check_scope_cond k).2⟩; ⟨GI_check_scope_cond, sndI_check_scope_cond⟩
noncomputable def G_check_scope_cond (x : ((Pg × Th) × (Cd × Unit))) : Option Bool := (it_check_scope_cond (SizeOf.sizeOf x + 1)).1 x
noncomputable def con_check_scope_cond : List AV → Prog AV := conP true ash_check_scope_cond (.dat .bool) G_check_scope_cond
theorem snd_check_scope_cond : SoundA Tryd.prog 41 con_check_scope_cond := conP_pick (sh := ash_check_scope_cond) (rs := .dat .bool) (n := fun x : ((Pg × Th) × (Cd × Unit)) => SizeOf.sizeOf x + 1) (F := fun k => (it_check_scope_cond k).1) (fun k => (it_check_scope_cond k).2)
end Go.Proofs.YtmjbedjnojcmfaaDoor.Ex

namespace Go.Proofs.YtmjbedjnojcmfaaDoor.Ex
open Go.Proofs Go.Proofs.YtmjbedjnojcmfaaDoor
set_option maxRecDepth 100000
set_option maxHeartbeats 2000000
set_option linter.unusedVariables false
set_option linter.unusedSimpArgs false
def ash_check_scope_stmt : List Sh := [.dat (.st (.pair tPg tTh)), .dat tSm]
def kp_check_scope_stmt_64_0 : Nat → List Nat := fun c => bif c.beq 0 then [0, 1, 7, 8] else [4]
class Rec_check_scope_stmt where
  K : ((Pg × Th) × (Stm × Unit)) → Option Bool
  s : SoundA Tryd.prog 16 (conP true ash_check_scope_stmt (.dat .bool) K)
section
variable [Rec_check_scope_stmt]
noncomputable def sp_check_scope_stmt : List Con := [⟨38, con_check_scope_isVar, snd_check_scope_isVar⟩, ⟨39, con_check_scope_expr, snd_check_scope_expr⟩, ⟨40, con_check_Array, snd_check_Array⟩, ⟨17, con_check_Mutex, snd_check_Mutex⟩, ⟨41, con_check_scope_cond, snd_check_scope_cond⟩, ⟨16, (conP true ash_check_scope_stmt (.dat .bool) Rec_check_scope_stmt.K), Rec_check_scope_stmt.s⟩]
def s_check_scope_stmt_64_0_1 : StS := ⟨[(0, .sl (.mu 2)), (1, .clo 37 [] [.ptr 3 0]), (7, .int .i64), (8, .int .i64)], [(3, .box [.clo 16 [.agg [.sl tGb, .sl tGb, .sl .str, .sl tTh, .str, .sl .str, .sl (.mu 2)]] []]), (2, .box [.clo 16 [.agg [.sl tGb, .sl tGb, .sl .str, .sl tTh, .str, .sl .str, .sl (.mu 2)]] []]), (1, .box [.int .i64, .str, .int .i64, .int .i64, .int .i64, .str, .sl (.mu 0), .int .i64, .int .i64, .int .i64, .str, .sl (.mu 0), .int .i64, .int .i64, .sl (.mu 0), .sl (.mu 1), .sl (.mu 2), .sl (.mu 2)]), (0, .box [.sl tGb, .sl tGb, .sl .str, .sl tTh, .str, .sl .str, .sl (.mu 2)])], 4⟩
def x_check_scope_stmt_64_0_1_0 : StS := ⟨[(4, .undef)], [(3, .box [.clo 16 [.agg [.sl tGb, .sl tGb, .sl .str, .sl tTh, .str, .sl .str, .sl (.mu 2)]] []]), (2, .box [.clo 16 [.agg [.sl tGb, .sl tGb, .sl .str, .sl tTh, .str, .sl .str, .sl (.mu 2)]] []]), (1, .box [.int .i64, .str, .int .i64, .int .i64, .int .i64, .str, .sl (.mu 0), .int .i64, .int .i64, .int .i64, .str, .sl (.mu 0), .int .i64, .int .i64, .sl (.mu 0), .sl (.mu 1), .sl (.mu 2), .sl (.mu 2)]), (0, .box [.sl tGb, .sl tGb, .sl .str, .sl tTh, .str, .sl .str, .sl (.mu 2)])], 4⟩
def x_check_scope_stmt_64_0_1_1 : StS := ⟨[(4, .int .i64)], [(3, .box [.clo 16 [.agg [.sl tGb, .sl tGb, .sl .str, .sl tTh, .str, .sl .str, .sl (.mu 2)]] []]), (2, .box [.clo 16 [.agg [.sl tGb, .sl tGb, .sl .str, .sl tTh, .str, .sl .str, .sl (.mu 2)]] []]), (1, .box [.int .i64, .str, .int .i64, .int .i64, .int .i64, .str, .sl (.mu 0), .int .i64, .int .i64, .int .i64, .str, .sl (.mu 0), .int .i64, .int .i64, .sl (.mu 0), .sl (.mu 1), .sl (.mu 2), .sl (.mu 2)]), (0, .box [.sl tGb, .sl tGb, .sl .str, .sl tTh, .str, .sl .str, .sl (.mu 2)])], 4⟩
abbrev X_check_scope_stmt_64_0_1 := ((List (RT.C 2)) × Int × Int × (List Gb) × (List Gb) × (List ByteArray) × (List Th) × ByteArray × (List ByteArray) × (List (RT.C 2)) × (List Gb) × (List Gb) × (List ByteArray) × (List Th) × ByteArray × (List ByteArray) × (List (RT.C 2)) × Int × ByteArray × Int × Int × Int × ByteArray × (List (RT.C 0)) × Int × Int × Int × ByteArray × (List (RT.C 0)) × Int × Int × (List (RT.C 0)) × (List (RT.C 1)) × (List (RT.C 2)) × (List (RT.C 2)) × (List Gb) × (List Gb) × (List ByteArray) × (List Th) × ByteArray × (List ByteArray) × (List (RT.C 2)))
def fl_check_scope_stmt_64_0_1 (d : StD s_check_scope_stmt_64_0_1) : X_check_scope_stmt_64_0_1 := (d.1.1, d.1.2.2.1, d.1.2.2.2.1, d.2.1.1.1.1.1, d.2.1.1.1.1.2.1, d.2.1.1.1.1.2.2.1, d.2.1.1.1.1.2.2.2.1, d.2.1.1.1.1.2.2.2.2.1, d.2.1.1.1.1.2.2.2.2.2.1, d.2.1.1.1.1.2.2.2.2.2.2.1, d.2.2.1.1.1.1.1, d.2.2.1.1.1.1.2.1, d.2.2.1.1.1.1.2.2.1, d.2.2.1.1.1.1.2.2.2.1, d.2.2.1.1.1.1.2.2.2.2.1, d.2.2.1.1.1.1.2.2.2.2.2.1, d.2.2.1.1.1.1.2.2.2.2.2.2.1, d.2.2.2.1.1, d.2.2.2.1.2.1, d.2.2.2.1.2.2.1, d.2.2.2.1.2.2.2.1, d.2.2.2.1.2.2.2.2.1, d.2.2.2.1.2.2.2.2.2.1, d.2.2.2.1.2.2.2.2.2.2.1, d.2.2.2.1.2.2.2.2.2.2.2.1, d.2.2.2.1.2.2.2.2.2.2.2.2.1, d.2.2.2.1.2.2.2.2.2.2.2.2.2.1, d.2.2.2.1.2.2.2.2.2.2.2.2.2.2.1, d.2.2.2.1.2.2.2.2.2.2.2.2.2.2.2.1, d.2.2.2.1.2.2.2.2.2.2.2.2.2.2.2.2.1, d.2.2.2.1.2.2.2.2.2.2.2.2.2.2.2.2.2.1, d.2.2.2.1.2.2.2.2.2.2.2.2.2.2.2.2.2.2.1, d.2.2.2.1.2.2.2.2.2.2.2.2.2.2.2.2.2.2.2.1, d.2.2.2.1.2.2.2.2.2.2.2.2.2.2.2.2.2.2.2.2.1, d.2.2.2.1.2.2.2.2.2.2.2.2.2.2.2.2.2.2.2.2.2.1, d.2.2.2.2.1.1, d.2.2.2.2.1.2.1, d.2.2.2.2.1.2.2.1, d.2.2.2.2.1.2.2.2.1, d.2.2.2.2.1.2.2.2.2.1, d.2.2.2.2.1.2.2.2.2.2.1, d.2.2.2.2.1.2.2.2.2.2.2.1)
def un_check_scope_stmt_64_0_1 (x : X_check_scope_stmt_64_0_1) : StD s_check_scope_stmt_64_0_1 := ((x.1, ((), ((), ())), x.2.1, x.2.2.1, ()), (((((x.2.2.2.1, x.2.2.2.2.1, x.2.2.2.2.2.1, x.2.2.2.2.2.2.1, x.2.2.2.2.2.2.2.1, x.2.2.2.2.2.2.2.2.1, x.2.2.2.2.2.2.2.2.2.1, ()), ()), ()), ()), ((((x.2.2.2.2.2.2.2.2.2.2.1, x.2.2.2.2.2.2.2.2.2.2.2.1, x.2.2.2.2.2.2.2.2.2.2.2.2.1, x.2.2.2.2.2.2.2.2.2.2.2.2.2.1, x.2.2.2.2.2.2.2.2.2.2.2.2.2.2.1, x.2.2.2.2.2.2.2.2.2.2.2.2.2.2.2.1, x.2.2.2.2.2.2.2.2.2.2.2.2.2.2.2.2.1, ()), ()), ()), ()), (x.2.2.2.2.2.2.2.2.2.2.2.2.2.2.2.2.2.1, x.2.2.2.2.2.2.2.2.2.2.2.2.2.2.2.2.2.2.1, x.2.2.2.2.2.2.2.2.2.2.2.2.2.2.2.2.2.2.2.1, x.2.2.2.2.2.2.2.2.2.2.2.2.2.2.2.2.2.2.2.2.1, x.2.2.2.2.2.2.2.2.2.2.2.2.2.2.2.2.2.2.2.2.2.1, x.2.2.2.2.2.2.2.2.2.2.2.2.2.2.2.2.2.2.2.2.2.2.1, x.2.2.2.2.2.2.2.2.2.2.2.2.2.2.2.2.2.2.2.2.2.2.2.1, x.2.2.2.2.2.2.2.2.2.2.2.2.2.2.2.2.2.2.2.2.2.2.2.2.1, x.2.2.2.2.2.2.2.2.2.2.2.2.2.2.2.2.2.2.2.2.2.2.2.2.2.1, x.2.2.2.2.2.2.2.2.2.2.2.2.2.2.2.2.2.2.2.2.2.2.2.2.2.2.1, x.2.2.2.2.2.2.2.2.2.2.2.2.2.2.2.2.2.2.2.2.2.2.2.2.2.2.2.1, x.2.2.2.2.2.2.2.2.2.2.2.2.2.2.2.2.2.2.2.2.2.2.2.2.2.2.2.2.1, x.2.2.2.2.2.2.2.2.2.2.2.2.2.2.2.2.2.2.2.2.2.2.2.2.2.2.2.2.2.1, x.2.2.2.2.2.2.2.2.2.2.2.2.2.2.2.2.2.2.2.2.2.2.2.2.2.2.2.2.2.2.1, x.2.2.2.2.2.2.2.2.2.2.2.2.2.2.2.2.2.2.2.2.2.2.2.2.2.2.2.2.2.2.2.1, x.2.2.2.2.2.2.2.2.2.2.2.2.2.2.2.2.2.2.2.2.2.2.2.2.2.2.2.2.2.2.2.2.1, x.2.2.2.2.2.2.2.2.2.2.2.2.2.2.2.2.2.2.2.2.2.2.2.2.2.2.2.2.2.2.2.2.2.1, x.2.2.2.2.2.2.2.2.2.2.2.2.2.2.2.2.2.2.2.2.2.2.2.2.2.2.2.2.2.2.2.2.2.2.1, ()), (x.2.2.2.2.2.2.2.2.2.2.2.2.2.2.2.2.2.2.2.2.2.2.2.2.2.2.2.2.2.2.2.2.2.2.2.1, x.2.2.2.2.2.2.2.2.2.2.2.2.2.2.2.2.2.2.2.2.2.2.2.2.2.2.2.2.2.2.2.2.2.2.2.2.1, x.2.2.2.2.2.2.2.2.2.2.2.2.2.2.2.2.2.2.2.2.2.2.2.2.2.2.2.2.2.2.2.2.2.2.2.2.2.1, x.2.2.2.2.2.2.2.2.2.2.2.2.2.2.2.2.2.2.2.2.2.2.2.2.2.2.2.2.2.2.2.2.2.2.2.2.2.2.1, x.2.2.2.2.2.2.2.2.2.2.2.2.2.2.2.2.2.2.2.2.2.2.2.2.2.2.2.2.2.2.2.2.2.2.2.2.2.2.2.1, x.2.2.2.2.2.2.2.2.2.2.2.2.2.2.2.2.2.2.2.2.2.2.2.2.2.2.2.2.2.2.2.2.2.2.2.2.2.2.2.2.1, x.2.2.2.2.2.2.2.2.2.2.2.2.2.2.2.2.2.2.2.2.2.2.2.2.2.2.2.2.2.2.2.2.2.2.2.2.2.2.2.2.2, ()), ()))
abbrev X_check_scope_stmt_64_0_1_0 := ((List Gb) × (List Gb) × (List ByteArray) × (List Th) × ByteArray × (List ByteArray) × (List (RT.C 2)) × (List Gb) × (List Gb) × (List ByteArray) × (List Th) × ByteArray × (List ByteArray) × (List (RT.C 2)) × Int × ByteArray × Int × Int × Int × ByteArray × (List (RT.C 0)) × Int × Int × Int × ByteArray × (List (RT.C 0)) × Int × Int × (List (RT.C 0)) × (List (RT.C 1)) × (List (RT.C 2)) × (List (RT.C 2)) × (List Gb) × (List Gb) × (List ByteArray) × (List Th) × ByteArray × (List ByteArray) × (List (RT.C 2)))
def fl_check_scope_stmt_64_0_1_0 (d : StD x_check_scope_stmt_64_0_1_0) : X_check_scope_stmt_64_0_1_0 := (d.2.1.1.1.1.1, d.2.1.1.1.1.2.1, d.2.1.1.1.1.2.2.1, d.2.1.1.1.1.2.2.2.1, d.2.1.1.1.1.2.2.2.2.1, d.2.1.1.1.1.2.2.2.2.2.1, d.2.1.1.1.1.2.2.2.2.2.2.1, d.2.2.1.1.1.1.1, d.2.2.1.1.1.1.2.1, d.2.2.1.1.1.1.2.2.1, d.2.2.1.1.1.1.2.2.2.1, d.2.2.1.1.1.1.2.2.2.2.1, d.2.2.1.1.1.1.2.2.2.2.2.1, d.2.2.1.1.1.1.2.2.2.2.2.2.1, d.2.2.2.1.1, d.2.2.2.1.2.1, d.2.2.2.1.2.2.1, d.2.2.2.1.2.2.2.1, d.2.2.2.1.2.2.2.2.1, d.2.2.2.1.2.2.2.2.2.1, d.2.2.2.1.2.2.2.2.2.2.1, d.2.2.2.1.2.2.2.2.2.2.2.1, d.2.2.2.1.2.2.2.2.2.2.2.2.1, d.2.2.2.1.2.2.2.2.2.2.2.2.2.1, d.2.2.2.1.2.2.2.2.2.2.2.2.2.2.1, d.2.2.2.1.2.2.2.2.2.2.2.2.2.2.2.1, d.2.2.2.1.2.2.2.2.2.2.2.2.2.2.2.2.1, d.2.2.2.1.2.2.2.2.2.2.2.2.2.2.2.2.2.1, d.2.2.2.1.2.2.2.2.2.2.2.2.2.2.2.2.2.2.1, d.2.2.2.1.2.2.2.2.2.2.2.2.2.2.2.2.2.2.2.1, d.2.2.2.1.2.2.2.2.2.2.2.2.2.2.2.2.2.2.2.2.1, d.2.2.2.1.2.2.2.2.2.2.2.2.2.2.2.2.2.2.2.2.2.1, d.2.2.2.2.1.1, d.2.2.2.2.1.2.1, d.2.2.2.2.1.2.2.1, d.2.2.2.2.1.2.2.2.1, d.2.2.2.2.1.2.2.2.2.1, d.2.2.2.2.1.2.2.2.2.2.1, d.2.2.2.2.1.2.2.2.2.2.2.1)
def un_check_scope_stmt_64_0_1_0 (x : X_check_scope_stmt_64_0_1_0) : StD x_check_scope_stmt_64_0_1_0 := (((), ()), (((((x.1, x.2.1, x.2.2.1, x.2.2.2.1, x.2.2.2.2.1, x.2.2.2.2.2.1, x.2.2.2.2.2.2.1, ()), ()), ()), ()), ((((x.2.2.2.2.2.2.2.1, x.2.2.2.2.2.2.2.2.1, x.2.2.2.2.2.2.2.2.2.1, x.2.2.2.2.2.2.2.2.2.2.1, x.2.2.2.2.2.2.2.2.2.2.2.1, x.2.2.2.2.2.2.2.2.2.2.2.2.1, x.2.2.2.2.2.2.2.2.2.2.2.2.2.1, ()), ()), ()), ()), (x.2.2.2.2.2.2.2.2.2.2.2.2.2.2.1, x.2.2.2.2.2.2.2.2.2.2.2.2.2.2.2.1, x.2.2.2.2.2.2.2.2.2.2.2.2.2.2.2.2.1, x.2.2.2.2.2.2.2.2.2.2.2.2.2.2.2.2.2.1, x.2.2.2.2.2.2.2.2.2.2.2.2.2.2.2.2.2.2.1, x.2.2.2.2.2.2.2.2.2.2.2.2.2.2.2.2.2.2.2.1, x.2.2.2.2.2.2.2.2.2.2.2.2.2.2.2.2.2.2.2.2.1, x.2.2.2.2.2.2.2.2.2.2.2.2.2.2.2.2.2.2.2.2.2.1, x.2.2.2.2.2.2.2.2.2.2.2.2.2.2.2.2.2.2.2.2.2.2.1, x.2.2.2.2.2.2.2.2.2.2.2.2.2.2.2.2.2.2.2.2.2.2.2.1, x.2.2.2.2.2.2.2.2.2.2.2.2.2.2.2.2.2.2.2.2.2.2.2.2.1, x.2.2.2.2.2.2.2.2.2.2.2.2.2.2.2.2.2.2.2.2.2.2.2.2.2.1, x.2.2.2.2.2.2.2.2.2.2.2.2.2.2.2.2.2.2.2.2.2.2.2.2.2.2.1, x.2.2.2.2.2.2.2.2.2.2.2.2.2.2.2.2.2.2.2.2.2.2.2.2.2.2.2.1, x.2.2.2.2.2.2.2.2.2.2.2.2.2.2.2.2.2.2.2.2.2.2.2.2.2.2.2.2.1, x.2.2.2.2.2.2.2.2.2.2.2.2.2.2.2.2.2.2.2.2.2.2.2.2.2.2.2.2.2.1, x.2.2.2.2.2.2.2.2.2.2.2.2.2.2.2.2.2.2.2.2.2.2.2.2.2.2.2.2.2.2.1, x.2.2.2.2.2.2.2.2.2.2.2.2.2.2.2.2.2.2.2.2.2.2.2.2.2.2.2.2.2.2.2.1, ()), (x.2.2.2.2.2.2.2.2.2.2.2.2.2.2.2.2.2.2.2.2.2.2.2.2.2.2.2.2.2.2.2.2.1, x.2.2.2.2.2.2.2.2.2.2.2.2.2.2.2.2.2.2.2.2.2.2.2.2.2.2.2.2.2.2.2.2.2.1, x.2.2.2.2.2.2.2.2.2.2.2.2.2.2.2.2.2.2.2.2.2.2.2.2.2.2.2.2.2.2.2.2.2.2.1, x.2.2.2.2.2.2.2.2.2.2.2.2.2.2.2.2.2.2.2.2.2.2.2.2.2.2.2.2.2.2.2.2.2.2.2.1, x.2.2.2.2.2.2.2.2.2.2.2.2.2.2.2.2.2.2.2.2.2.2.2.2.2.2.2.2.2.2.2.2.2.2.2.2.1, x.2.2.2.2.2.2.2.2.2.2.2.2.2.2.2.2.2.2.2.2.2.2.2.2.2.2.2.2.2.2.2.2.2.2.2.2.2.1, x.2.2.2.2.2.2.2.2.2.2.2.2.2.2.2.2.2.2.2.2.2.2.2.2.2.2.2.2.2.2.2.2.2.2.2.2.2.2, ()), ()))
abbrev X_check_scope_stmt_64_0_1_1 := (Int × (List Gb) × (List Gb) × (List ByteArray) × (List Th) × ByteArray × (List ByteArray) × (List (RT.C 2)) × (List Gb) × (List Gb) × (List ByteArray) × (List Th) × ByteArray × (List ByteArray) × (List (RT.C 2)) × Int × ByteArray × Int × Int × Int × ByteArray × (List (RT.C 0)) × Int × Int × Int × ByteArray × (List (RT.C 0)) × Int × Int × (List (RT.C 0)) × (List (RT.C 1)) × (List (RT.C 2)) × (List (RT.C 2)) × (List Gb) × (List Gb) × (List ByteArray) × (List Th) × ByteArray × (List ByteArray) × (List (RT.C 2)))
def fl_check_scope_stmt_64_0_1_1 (d : StD x_check_scope_stmt_64_0_1_1) : X_check_scope_stmt_64_0_1_1 := (d.1.1, d.2.1.1.1.1.1, d.2.1.1.1.1.2.1, d.2.1.1.1.1.2.2.1, d.2.1.1.1.1.2.2.2.1, d.2.1.1.1.1.2.2.2.2.1, d.2.1.1.1.1.2.2.2.2.2.1, d.2.1.1.1.1.2.2.2.2.2.2.1, d.2.2.1.1.1.1.1, d.2.2.1.1.1.1.2.1, d.2.2.1.1.1.1.2.2.1, d.2.2.1.1.1.1.2.2.2.1, d.2.2.1.1.1.1.2.2.2.2.1, d.2.2.1.1.1.1.2.2.2.2.2.1, d.2.2.1.1.1.1.2.2.2.2.2.2.1, d.2.2.2.1.1, d.2.2.2.1.2.1, d.2.2.2.1.2.2.1, d.2.2.2.1.2.2.2.1, d.2.2.2.1.2.2.2.2.1, d.2.2.2.1.2.2.2.2.2.1, d.2.2.2.1.2.2.2.2.2.2.1, d.2.2.2.1.2.2.2.2.2.2.2.1, d.2.2.2.1.2.2.2.2.2.2.2.2.1, d.2.2.2.1.2.2.2.2.2.2.2.2.2.1, d.2.2.2.1.2.2.2.2.2.2.2.2.2.2.1, d.2.2.2.1.2.2.2.2.2.2.2.2.2.2.2.1, d.2.2.2.1.2.2.2.2.2.2.2.2.2.2.2.2.1, d.2.2.2.1.2.2.2.2.2.2.2.2.2.2.2.2.2.1, d.2.2.2.1.2.2.2.2.2.2.2.2.2.2.2.2.2.2.1, d.2.2.2.1.2.2.2.2.2.2.2.2.2.2.2.2.2.2.2.1, d.2.2.2.1.2.2.2.2.2.2.2.2.2.2.2.2.2.2.2.2.1, d.2.2.2.1.2.2.2.2.2.2.2.2.2.2.2.2.2.2.2.2.2.1, d.2.2.2.2.1.1, d.2.2.2.2.1.2.1, d.2.2.2.2.1.2.2.1, d.2.2.2.2.1.2.2.2.1, d.2.2.2.2.1.2.2.2.2.1, d.2.2.2.2.1.2.2.2.2.2.1, d.2.2.2.2.1.2.2.2.2.2.2.1)
def un_check_scope_stmt_64_0_1_1 (x : X_check_scope_stmt_64_0_1_1) : StD x_check_scope_stmt_64_0_1_1 := ((x.1, ()), (((((x.2.1, x.2.2.1, x.2.2.2.1, x.2.2.2.2.1, x.2.2.2.2.2.1, x.2.2.2.2.2.2.1, x.2.2.2.2.2.2.2.1, ()), ()), ()), ()), ((((x.2.2.2.2.2.2.2.2.1, x.2.2.2.2.2.2.2.2.2.1, x.2.2.2.2.2.2.2.2.2.2.1, x.2.2.2.2.2.2.2.2.2.2.2.1, x.2.2.2.2.2.2.2.2.2.2.2.2.1, x.2.2.2.2.2.2.2.2.2.2.2.2.2.1, x.2.2.2.2.2.2.2.2.2.2.2.2.2.2.1, ()), ()), ()), ()), (x.2.2.2.2.2.2.2.2.2.2.2.2.2.2.2.1, x.2.2.2.2.2.2.2.2.2.2.2.2.2.2.2.2.1, x.2.2.2.2.2.2.2.2.2.2.2.2.2.2.2.2.2.1, x.2.2.2.2.2.2.2.2.2.2.2.2.2.2.2.2.2.2.1, x.2.2.2.2.2.2.2.2.2.2.2.2.2.2.2.2.2.2.2.1, x.2.2.2.2.2.2.2.2.2.2.2.2.2.2.2.2.2.2.2.2.1, x.2.2.2.2.2.2.2.2.2.2.2.2.2.2.2.2.2.2.2.2.2.1, x.2.2.2.2.2.2.2.2.2.2.2.2.2.2.2.2.2.2.2.2.2.2.1, x.2.2.2.2.2.2.2.2.2.2.2.2.2.2.2.2.2.2.2.2.2.2.2.1, x.2.2.2.2.2.2.2.2.2.2.2.2.2.2.2.2.2.2.2.2.2.2.2.2.1, x.2.2.2.2.2.2.2.2.2.2.2.2.2.2.2.2.2.2.2.2.2.2.2.2.2.1, x.2.2.2.2.2.2.2.2.2.2.2.2.2.2.2.2.2.2.2.2.2.2.2.2.2.2.1, x.2.2.2.2.2.2.2.2.2.2.2.2.2.2.2.2.2.2.2.2.2.2.2.2.2.2.2.1, x.2.2.2.2.2.2.2.2.2.2.2.2.2.2.2.2.2.2.2.2.2.2.2.2.2.2.2.2.1, x.2.2.2.2.2.2.2.2.2.2.2.2.2.2.2.2.2.2.2.2.2.2.2.2.2.2.2.2.2.1, x.2.2.2.2.2.2.2.2.2.2.2.2.2.2.2.2.2.2.2.2.2.2.2.2.2.2.2.2.2.2.1, x.2.2.2.2.2.2.2.2.2.2.2.2.2.2.2.2.2.2.2.2.2.2.2.2.2.2.2.2.2.2.2.1, x.2.2.2.2.2.2.2.2.2.2.2.2.2.2.2.2.2.2.2.2.2.2.2.2.2.2.2.2.2.2.2.2.1, ()), (x.2.2.2.2.2.2.2.2.2.2.2.2.2.2.2.2.2.2.2.2.2.2.2.2.2.2.2.2.2.2.2.2.2.1, x.2.2.2.2.2.2.2.2.2.2.2.2.2.2.2.2.2.2.2.2.2.2.2.2.2.2.2.2.2.2.2.2.2.2.1, x.2.2.2.2.2.2.2.2.2.2.2.2.2.2.2.2.2.2.2.2.2.2.2.2.2.2.2.2.2.2.2.2.2.2.2.1, x.2.2.2.2.2.2.2.2.2.2.2.2.2.2.2.2.2.2.2.2.2.2.2.2.2.2.2.2.2.2.2.2.2.2.2.2.1, x.2.2.2.2.2.2.2.2.2.2.2.2.2.2.2.2.2.2.2.2.2.2.2.2.2.2.2.2.2.2.2.2.2.2.2.2.2.1, x.2.2.2.2.2.2.2.2.2.2.2.2.2.2.2.2.2.2.2.2.2.2.2.2.2.2.2.2.2.2.2.2.2.2.2.2.2.2.1, x.2.2.2.2.2.2.2.2.2.2.2.2.2.2.2.2.2.2.2.2.2.2.2.2.2.2.2.2.2.2.2.2.2.2.2.2.2.2.2, ()), ()))
noncomputable def st_check_scope_stmt_64_0_1 (s0 : (List (RT.C 2))) (s7 : Int) (s8 : Int) (b3 : (List Gb)) (b3_1 : (List Gb)) (b3_2 : (List ByteArray)) (b3_3 : (List Th)) (b3_4 : ByteArray) (b3_5 : (List ByteArray)) (b3_6 : (List (RT.C 2))) (b2 : (List Gb)) (b2_1 : (List Gb)) (b2_2 : (List ByteArray)) (b2_3 : (List Th)) (b2_4 : ByteArray) (b2_5 : (List ByteArray)) (b2_6 : (List (RT.C 2))) (b1 : Int) (b1_1 : ByteArray) (b1_2 : Int) (b1_3 : Int) (b1_4 : Int) (b1_5 : ByteArray) (b1_6 : (List (RT.C 0))) (b1_7 : Int) (b1_8 : Int) (b1_9 : Int) (b1_10 : ByteArray) (b1_11 : (List (RT.C 0))) (b1_12 : Int) (b1_13 : Int) (b1_14 : (List (RT.C 0))) (b1_15 : (List (RT.C 1))) (b1_16 : (List (RT.C 2))) (b1_17 : (List (RT.C 2))) (b0 : (List Gb)) (b0_1 : (List Gb)) (b0_2 : (List ByteArray)) (b0_3 : (List Th)) (b0_4 : ByteArray) (b0_5 : (List ByteArray)) (b0_6 : (List (RT.C 2))) : Option (((List (RT.C 2)) × Int × Int × (List Gb) × (List Gb) × (List ByteArray) × (List Th) × ByteArray × (List ByteArray) × (List (RT.C 2)) × (List Gb) × (List Gb) × (List ByteArray) × (List Th) × ByteArray × (List ByteArray) × (List (RT.C 2)) × Int × ByteArray × Int × Int × Int × ByteArray × (List (RT.C 0)) × Int × Int × Int × ByteArray × (List (RT.C 0)) × Int × Int × (List (RT.C 0)) × (List (RT.C 1)) × (List (RT.C 2)) × (List (RT.C 2)) × (List Gb) × (List Gb) × (List ByteArray) × (List Th) × ByteArray × (List ByteArray) × (List (RT.C 2))) ⊕ (((List Gb) × (List Gb) × (List ByteArray) × (List Th) × ByteArray × (List ByteArray) × (List (RT.C 2)) × (List Gb) × (List Gb) × (List ByteArray) × (List Th) × ByteArray × (List ByteArray) × (List (RT.C 2)) × Int × ByteArray × Int × Int × Int × ByteArray × (List (RT.C 0)) × Int × Int × Int × ByteArray × (List (RT.C 0)) × Int × Int × (List (RT.C 0)) × (List (RT.C 1)) × (List (RT.C 2)) × (List (RT.C 2)) × (List Gb) × (List Gb) × (List ByteArray) × (List Th) × ByteArray × (List ByteArray) × (List (RT.C 2))) ⊕ (Int × (List Gb) × (List Gb) × (List ByteArray) × (List Th) × ByteArray × (List ByteArray) × (List (RT.C 2)) × (List Gb) × (List Gb) × (List ByteArray) × (List Th) × ByteArray × (List ByteArray) × (List (RT.C 2)) × Int × ByteArray × Int × Int × Int × ByteArray × (List (RT.C 0)) × Int × Int × Int × ByteArray × (List (RT.C 0)) × Int × Int × (List (RT.C 0)) × (List (RT.C 1)) × (List (RT.C 2)) × (List (RT.C 2)) × (List Gb) × (List Gb) × (List ByteArray) × (List Th) × ByteArray × (List ByteArray) × (List (RT.C 2))))) :=
  bif decide (s8 < s7) then
 bif decide (0 ≤ s8) then
 optC s0[s8.toNat]? none fun d46 ↦
 optC (Rec_check_scope_stmt.K (((b3, b3_1, b3_2, b3_3), b3_4, b3_5, b3_6), uT2 d46, ())) none fun d47 ↦
 bif !d47 then
 some
 (Sum.inr
 (Sum.inr
 (s8, b3, b3_1, b3_2, b3_3, b3_4, b3_5, b3_6, b2, b2_1, b2_2, b2_3, b2_4, b2_5, b2_6, b1, b1_1, b1_2, b1_3, b1_4, b1_5, b1_6, b1_7, b1_8, b1_9, b1_10, b1_11, b1_12, b1_13, b1_14, b1_15,
 b1_16, b1_17, b0, b0_1, b0_2, b0_3, b0_4, b0_5, b0_6)))
 else
 some
 (Sum.inl
 (s0, s7, Go.IntKind.i64.wrap (s8 + 1), b3, b3_1, b3_2, b3_3, b3_4, b3_5, b3_6, b2, b2_1, b2_2, b2_3, b2_4, b2_5, b2_6, b1, b1_1, b1_2, b1_3, b1_4, b1_5, b1_6, b1_7, b1_8, b1_9, b1_10,
 b1_11, b1_12, b1_13, b1_14, b1_15, b1_16, b1_17, b0, b0_1, b0_2, b0_3, b0_4, b0_5, b0_6))
 else none
 else
 some
 (Sum.inr
 (Sum.inl
 (b3, b3_1, b3_2, b3_3, b3_4, b3_5, b3_6, b2, b2_1, b2_2, b2_3, b2_4, b2_5, b2_6, b1, b1_1, b1_2, b1_3, b1_4, b1_5, b1_6, b1_7, b1_8, b1_9, b1_10, b1_11, b1_12, b1_13, b1_14, b1_15, b1_16,
 b1_17, b0, b0_1, b0_2, b0_3, b0_4, b0_5, b0_6)))
noncomputable def sx_check_scope_stmt_64_0_1 (x : X_check_scope_stmt_64_0_1) : Option (X_check_scope_stmt_64_0_1 ⊕ (X_check_scope_stmt_64_0_1_0 ⊕ X_check_scope_stmt_64_0_1_1)) := st_check_scope_stmt_64_0_1 x.1 x.2.1 x.2.2.1 x.2.2.2.1 x.2.2.2.2.1 x.2.2.2.2.2.1 x.2.2.2.2.2.2.1 x.2.2.2.2.2.2.2.1 x.2.2.2.2.2.2.2.2.1 x.2.2.2.2.2.2.2.2.2.1 x.2.2.2.2.2.2.2.2.2.2.1 x.2.2.2.2.2.2.2.2.2.2.2.1 x.2.2.2.2.2.2.2.2.2.2.2.2.1 x.2.2.2.2.2.2.2.2.2.2.2.2.2.1 x.2.2.2.2.2.2.2.2.2.2.2.2.2.2.1 x.2.2.2.2.2.2.2.2.2.2.2.2.2.2.2.1 x.2.2.2.2.2.2.2.2.2.2.2.2.2.2.2.2.1 x.2.2.2.2.2.2.2.2.2.2.2.2.2.2.2.2.2.1 x.2.2.2.2.2.2.2.2.2.2.2.2.2.2.2.2.2.2.1 x.2.2.2.2.2.2.2.2.2.2.2.2.2.2.2.2.2.2.2.1 x.2.2.2.2.2.2.2.2.2.2.2.2.2.2.2.2.2.2.2.2.1 x.2.2.2.2.2.2.2.2.2.2.2.2.2.2.2.2.2.2.2.2.2.1 x.2.2.2.2.2.2.2.2.2.2.2.2.2.2.2.2.2.2.2.2.2.2.1 x.2.2.2.2.2.2.2.2.2.2.2.2.2.2.2.2.2.2.2.2.2.2.2.1 x.2.2.2.2.2.2.2.2.2.2.2.2.2.2.2.2.2.2.2.2.2.2.2.2.1 x.2.2.2.2.2.2.2.2.2.2.2.2.2.2.2.2.2.2.2.2.2.2.2.2.2.1 x.2.2.2.2.2.2.2.2.2.2.2.2.2.2.2.2.2.2.2.2.2.2.2.2.2.2.1 x.2.2.2.2.2.2.2.2.2.2.2.2.2.2.2.2.2.2.2.2.2.2.2.2.2.2.2.1 x.2.2.2.2.2.2.2.2.2.2.2.2.2.2.2.2.2.2.2.2.2.2.2.2.2.2.2.2.1 x.2.2.2.2.2.2.2.2.2.2.2.2.2.2.2.2.2.2.2.2.2.2.2.2.2.2.2.2.2.1 x.2.2.2.2.2.2.2.2.2.2.2.2.2.2.2.2.2.2.2.2.2.2.2.2.2.2.2.2.2.2.1 x.2.2.2.2.2.2.2.2.2.2.2.2.2.2.2.2.2.2.2.2.2.2.2.2.2.2.2.2.2.2.2.1 x.2.2.2.2.2.2.2.2.2.2.2.2.2.2.2.2.2.2.2.2.2.2.2.2.2.2.2.2.2.2.2.2.1 x.2.2.2.2.2.2.2.2.2.2.2.2.2.2.2.2.2.2.2.2.2.2.2.2.2.2.2.2.2.2.2.2.2.1 x.2.2.2.2.2.2.2.2.2.2.2.2.2.2.2.2.2.2.2.2.2.2.2.2.2.2.2.2.2.2.2.2.2.2.1 x.2.2.2.2.2.2.2.2.2.2.2.2.2.2.2.2.2.2.2.2.2.2.2.2.2.2.2.2.2.2.2.2.2.2.2.1 x.2.2.2.2.2.2.2.2.2.2.2.2.2.2.2.2.2.2.2.2.2.2.2.2.2.2.2.2.2.2.2.2.2.2.2.2.1 x.2.2.2.2.2.2.2.2.2.2.2.2.2.2.2.2.2.2.2.2.2.2.2.2.2.2.2.2.2.2.2.2.2.2.2.2.2.1 x.2.2.2.2.2.2.2.2.2.2.2.2.2.2.2.2.2.2.2.2.2.2.2.2.2.2.2.2.2.2.2.2.2.2.2.2.2.2.1 x.2.2.2.2.2.2.2.2.2.2.2.2.2.2.2.2.2.2.2.2.2.2.2.2.2.2.2.2.2.2.2.2.2.2.2.2.2.2.2.1 x.2.2.2.2.2.2.2.2.2.2.2.2.2.2.2.2.2.2.2.2.2.2.2.2.2.2.2.2.2.2.2.2.2.2.2.2.2.2.2.2.1 x.2.2.2.2.2.2.2.2.2.2.2.2.2.2.2.2.2.2.2.2.2.2.2.2.2.2.2.2.2.2.2.2.2.2.2.2.2.2.2.2.2
theorem rn_check_scope_stmt_64_0_1 (x : X_check_scope_stmt_64_0_1) : rdX (cxU sp_check_scope_stmt [] 40 (1048576 ^ 9)) keeps 8 ⟨64, 19, keeps 64, 4⟩ 0 (bodyX 64 0) 4 kp_check_scope_stmt_64_0 (sT s_check_scope_stmt_64_0_1 (un_check_scope_stmt_64_0_1 x)) (sH s_check_scope_stmt_64_0_1 (un_check_scope_stmt_64_0_1 x)) (rdO (fun T h => (rdS s_check_scope_stmt_64_0_1 T h).map fl_check_scope_stmt_64_0_1) (getOr (getE 2 x_check_scope_stmt_64_0_1_0 fl_check_scope_stmt_64_0_1_0) (getE 1 x_check_scope_stmt_64_0_1_1 fl_check_scope_stmt_64_0_1_1))) = sx_check_scope_stmt_64_0_1 x := by kernel_rfl
noncomputable def L_check_scope_stmt_64_0_1 (x : X_check_scope_stmt_64_0_1) : Option (X_check_scope_stmt_64_0_1_0 ⊕ X_check_scope_stmt_64_0_1_1) := iterO (fun x => st_check_scope_stmt_64_0_1 x.1 x.2.1 x.2.2.1 x.2.2.2.1 x.2.2.2.2.1 x.2.2.2.2.2.1 x.2.2.2.2.2.2.1 x.2.2.2.2.2.2.2.1 x.2.2.2.2.2.2.2.2.1 x.2.2.2.2.2.2.2.2.2.1 x.2.2.2.2.2.2.2.2.2.2.1 x.2.2.2.2.2.2.2.2.2.2.2.1 x.2.2.2.2.2.2.2.2.2.2.2.2.1 x.2.2.2.2.2.2.2.2.2.2.2.2.2.1 x.2.2.2.2.2.2.2.2.2.2.2.2.2.2.1 x.2.2.2.2.2.2.2.2.2.2.2.2.2.2.2.1 x.2.2.2.2.2.2.2.2.2.2.2.2.2.2.2.2.1 x.2.2.2.2.2.2.2.2.2.2.2.2.2.2.2.2.2.1 x.2.2.2.2.2.2.2.2.2.2.2.2.2.2.2.2.2.2.1 x.2.2.2.2.2.2.2.2.2.2.2.2.2.2.2.2.2.2.2.1 x.2.2.2.2.2.2.2.2.2.2.2.2.2.2.2.2.2.2.2.2.1 x.2.2.2.2.2.2.2.2.2.2.2.2.2.2.2.2.2.2.2.2.2.1 x.2.2.2.2.2.2.2.2.2.2.2.2.2.2.2.2.2.2.2.2.2.2.1 x.2.2.2.2.2.2.2.2.2.2.2.2.2.2.2.2.2.2.2.2.2.2.2.1 x.2.2.2.2.2.2.2.2.2.2.2.2.2.2.2.2.2.2.2.2.2.2.2.2.1 x.2.2.2.2.2.2.2.2.2.2.2.2.2.2.2.2.2.2.2.2.2.2.2.2.2.1 x.2.2.2.2.2.2.2.2.2.2.2.2.2.2.2.2.2.2.2.2.2.2.2.2.2.2.1 x.2.2.2.2.2.2.2.2.2.2.2.2.2.2.2.2.2.2.2.2.2.2.2.2.2.2.2.1 x.2.2.2.2.2.2.2.2.2.2.2.2.2.2.2.2.2.2.2.2.2.2.2.2.2.2.2.2.1 x.2.2.2.2.2.2.2.2.2.2.2.2.2.2.2.2.2.2.2.2.2.2.2.2.2.2.2.2.2.1 x.2.2.2.2.2.2.2.2.2.2.2.2.2.2.2.2.2.2.2.2.2.2.2.2.2.2.2.2.2.2.1 x.2.2.2.2.2.2.2.2.2.2.2.2.2.2.2.2.2.2.2.2.2.2.2.2.2.2.2.2.2.2.2.1 x.2.2.2.2.2.2.2.2.2.2.2.2.2.2.2.2.2.2.2.2.2.2.2.2.2.2.2.2.2.2.2.2.1 x.2.2.2.2.2.2.2.2.2.2.2.2.2.2.2.2.2.2.2.2.2.2.2.2.2.2.2.2.2.2.2.2.2.1 x.2.2.2.2.2.2.2.2.2.2.2.2.2.2.2.2.2.2.2.2.2.2.2.2.2.2.2.2.2.2.2.2.2.2.1 x.2.2.2.2.2.2.2.2.2.2.2.2.2.2.2.2.2.2.2.2.2.2.2.2.2.2.2.2.2.2.2.2.2.2.2.1 x.2.2.2.2.2.2.2.2.2.2.2.2.2.2.2.2.2.2.2.2.2.2.2.2.2.2.2.2.2.2.2.2.2.2.2.2.1 x.2.2.2.2.2.2.2.2.2.2.2.2.2.2.2.2.2.2.2.2.2.2.2.2.2.2.2.2.2.2.2.2.2.2.2.2.2.1 x.2.2.2.2.2.2.2.2.2.2.2.2.2.2.2.2.2.2.2.2.2.2.2.2.2.2.2.2.2.2.2.2.2.2.2.2.2.2.1 x.2.2.2.2.2.2.2.2.2.2.2.2.2.2.2.2.2.2.2.2.2.2.2.2.2.2.2.2.2.2.2.2.2.2.2.2.2.2.2.1 x.2.2.2.2.2.2.2.2.2.2.2.2.2.2.2.2.2.2.2.2.2.2.2.2.2.2.2.2.2.2.2.2.2.2.2.2.2.2.2.2.1 x.2.2.2.2.2.2.2.2.2.2.2.2.2.2.2.2.2.2.2.2.2.2.2.2.2.2.2.2.2.2.2.2.2.2.2.2.2.2.2.2.2) FUEL x
def s_check_scope_stmt_64_0_0 : StS := ⟨[(0, .sl (.mu 2)), (1, .clo 37 [] [.ptr 2 0]), (7, .int .i64), (8, .int .i64)], [(2, .box [.clo 16 [.agg [.sl tGb, .sl tGb, .sl .str, .sl tTh, .str, .sl .str, .sl (.mu 2)]] []]), (1, .box [.int .i64, .str, .int .i64, .int .i64, .int .i64, .str, .sl (.mu 0), .int .i64, .int .i64, .int .i64, .str, .sl (.mu 0), .int .i64, .int .i64, .sl (.mu 0), .sl (.mu 1), .sl (.mu 2), .sl (.mu 2)]), (0, .box [.sl tGb, .sl tGb, .sl .str, .sl tTh, .str, .sl .str, .sl (.mu 2)])], 3⟩
def x_check_scope_stmt_64_0_0_0 : StS := ⟨[(4, .undef)], [(2, .box [.clo 16 [.agg [.sl tGb, .sl tGb, .sl .str, .sl tTh, .str, .sl .str, .sl (.mu 2)]] []]), (1, .box [.int .i64, .str, .int .i64, .int .i64, .int .i64, .str, .sl (.mu 0), .int .i64, .int .i64, .int .i64, .str, .sl (.mu 0), .int .i64, .int .i64, .sl (.mu 0), .sl (.mu 1), .sl (.mu 2), .sl (.mu 2)]), (0, .box [.sl tGb, .sl tGb, .sl .str, .sl tTh, .str, .sl .str, .sl (.mu 2)])], 3⟩
def x_check_scope_stmt_64_0_0_1 : StS := ⟨[(4, .int .i64)], [(2, .box [.clo 16 [.agg [.sl tGb, .sl tGb, .sl .str, .sl tTh, .str, .sl .str, .sl (.mu 2)]] []]), (1, .box [.int .i64, .str, .int .i64, .int .i64, .int .i64, .str, .sl (.mu 0), .int .i64, .int .i64, .int .i64, .str, .sl (.mu 0), .int .i64, .int .i64, .sl (.mu 0), .sl (.mu 1), .sl (.mu 2), .sl (.mu 2)]), (0, .box [.sl tGb, .sl tGb, .sl .str, .sl tTh, .str, .sl .str, .sl (.mu 2)])], 3⟩
abbrev X_check_scope_stmt_64_0_0 := ((List (RT.C 2)) × Int × Int × (List Gb) × (List Gb) × (List ByteArray) × (List Th) × ByteArray × (List ByteArray) × (List (RT.C 2)) × Int × ByteArray × Int × Int × Int × ByteArray × (List (RT.C 0)) × Int × Int × Int × ByteArray × (List (RT.C 0)) × Int × Int × (List (RT.C 0)) × (List (RT.C 1)) × (List (RT.C 2)) × (List (RT.C 2)) × (List Gb) × (List Gb) × (List ByteArray) × (List Th) × ByteArray × (List ByteArray) × (List (RT.C 2)))
def fl_check_scope_stmt_64_0_0 (d : StD s_check_scope_stmt_64_0_0) : X_check_scope_stmt_64_0_0 := (d.1.1, d.1.2.2.1, d.1.2.2.2.1, d.2.1.1.1.1.1, d.2.1.1.1.1.2.1, d.2.1.1.1.1.2.2.1, d.2.1.1.1.1.2.2.2.1, d.2.1.1.1.1.2.2.2.2.1, d.2.1.1.1.1.2.2.2.2.2.1, d.2.1.1.1.1.2.2.2.2.2.2.1, d.2.2.1.1, d.2.2.1.2.1, d.2.2.1.2.2.1, d.2.2.1.2.2.2.1, d.2.2.1.2.2.2.2.1, d.2.2.1.2.2.2.2.2.1, d.2.2.1.2.2.2.2.2.2.1, d.2.2.1.2.2.2.2.2.2.2.1, d.2.2.1.2.2.2.2.2.2.2.2.1, d.2.2.1.2.2.2.2.2.2.2.2.2.1, d.2.2.1.2.2.2.2.2.2.2.2.2.2.1, d.2.2.1.2.2.2.2.2.2.2.2.2.2.2.1, d.2.2.1.2.2.2.2.2.2.2.2.2.2.2.2.1, d.2.2.1.2.2.2.2.2.2.2.2.2.2.2.2.2.1, d.2.2.1.2.2.2.2.2.2.2.2.2.2.2.2.2.2.1, d.2.2.1.2.2.2.2.2.2.2.2.2.2.2.2.2.2.2.1, d.2.2.1.2.2.2.2.2.2.2.2.2.2.2.2.2.2.2.2.1, d.2.2.1.2.2.2.2.2.2.2.2.2.2.2.2.2.2.2.2.2.1, d.2.2.2.1.1, d.2.2.2.1.2.1, d.2.2.2.1.2.2.1, d.2.2.2.1.2.2.2.1, d.2.2.2.1.2.2.2.2.1, d.2.2.2.1.2.2.2.2.2.1, d.2.2.2.1.2.2.2.2.2.2.1)
def un_check_scope_stmt_64_0_0 (x : X_check_scope_stmt_64_0_0) : StD s_check_scope_stmt_64_0_0 := ((x.1, ((), ((), ())), x.2.1, x.2.2.1, ()), (((((x.2.2.2.1, x.2.2.2.2.1, x.2.2.2.2.2.1, x.2.2.2.2.2.2.1, x.2.2.2.2.2.2.2.1, x.2.2.2.2.2.2.2.2.1, x.2.2.2.2.2.2.2.2.2.1, ()), ()), ()), ()), (x.2.2.2.2.2.2.2.2.2.2.1, x.2.2.2.2.2.2.2.2.2.2.2.1, x.2.2.2.2.2.2.2.2.2.2.2.2.1, x.2.2.2.2.2.2.2.2.2.2.2.2.2.1, x.2.2.2.2.2.2.2.2.2.2.2.2.2.2.1, x.2.2.2.2.2.2.2.2.2.2.2.2.2.2.2.1, x.2.2.2.2.2.2.2.2.2.2.2.2.2.2.2.2.1, x.2.2.2.2.2.2.2.2.2.2.2.2.2.2.2.2.2.1, x.2.2.2.2.2.2.2.2.2.2.2.2.2.2.2.2.2.2.1, x.2.2.2.2.2.2.2.2.2.2.2.2.2.2.2.2.2.2.2.1, x.2.2.2.2.2.2.2.2.2.2.2.2.2.2.2.2.2.2.2.2.1, x.2.2.2.2.2.2.2.2.2.2.2.2.2.2.2.2.2.2.2.2.2.1, x.2.2.2.2.2.2.2.2.2.2.2.2.2.2.2.2.2.2.2.2.2.2.1, x.2.2.2.2.2.2.2.2.2.2.2.2.2.2.2.2.2.2.2.2.2.2.2.1, x.2.2.2.2.2.2.2.2.2.2.2.2.2.2.2.2.2.2.2.2.2.2.2.2.1, x.2.2.2.2.2.2.2.2.2.2.2.2.2.2.2.2.2.2.2.2.2.2.2.2.2.1, x.2.2.2.2.2.2.2.2.2.2.2.2.2.2.2.2.2.2.2.2.2.2.2.2.2.2.1, x.2.2.2.2.2.2.2.2.2.2.2.2.2.2.2.2.2.2.2.2.2.2.2.2.2.2.2.1, ()), (x.2.2.2.2.2.2.2.2.2.2.2.2.2.2.2.2.2.2.2.2.2.2.2.2.2.2.2.2.1, x.2.2.2.2.2.2.2.2.2.2.2.2.2.2.2.2.2.2.2.2.2.2.2.2.2.2.2.2.2.1, x.2.2.2.2.2.2.2.2.2.2.2.2.2.2.2.2.2.2.2.2.2.2.2.2.2.2.2.2.2.2.1, x.2.2.2.2.2.2.2.2.2.2.2.2.2.2.2.2.2.2.2.2.2.2.2.2.2.2.2.2.2.2.2.1, x.2.2.2.2.2.2.2.2.2.2.2.2.2.2.2.2.2.2.2.2.2.2.2.2.2.2.2.2.2.2.2.2.1, x.2.2.2.2.2.2.2.2.2.2.2.2.2.2.2.2.2.2.2.2.2.2.2.2.2.2.2.2.2.2.2.2.2.1, x.2.2.2.2.2.2.2.2.2.2.2.2.2.2.2.2.2.2.2.2.2.2.2.2.2.2.2.2.2.2.2.2.2.2, ()), ()))
abbrev X_check_scope_stmt_64_0_0_0 := ((List Gb) × (List Gb) × (List ByteArray) × (List Th) × ByteArray × (List ByteArray) × (List (RT.C 2)) × Int × ByteArray × Int × Int × Int × ByteArray × (List (RT.C 0)) × Int × Int × Int × ByteArray × (List (RT.C 0)) × Int × Int × (List (RT.C 0)) × (List (RT.C 1)) × (List (RT.C 2)) × (List (RT.C 2)) × (List Gb) × (List Gb) × (List ByteArray) × (List Th) × ByteArray × (List ByteArray) × (List (RT.C 2)))
def fl_check_scope_stmt_64_0_0_0 (d : StD x_check_scope_stmt_64_0_0_0) : X_check_scope_stmt_64_0_0_0 := (d.2.1.1.1.1.1, d.2.1.1.1.1.2.1, d.2.1.1.1.1.2.2.1, d.2.1.1.1.1.2.2.2.1, d.2.1.1.1.1.2.2.2.2.1, d.2.1.1.1.1.2.2.2.2.2.1, d.2.1.1.1.1.2.2.2.2.2.2.1, d.2.2.1.1, d.2.2.1.2.1, d.2.2.1.2.2.1, d.2.2.1.2.2.2.1, d.2.2.1.2.2.2.2.1, d.2.2.1.2.2.2.2.2.1, d.2.2.1.2.2.2.2.2.2.1, d.2.2.1.2.2.2.2.2.2.2.1, d.2.2.1.2.2.2.2.2.2.2.2.1, d.2.2.1.2.2.2.2.2.2.2.2.2.1, d.2.2.1.2.2.2.2.2.2.2.2.2.2.1, d.2.2.1.2.2.2.2.2.2.2.2.2.2.2.1, d.2.2.1.2.2.2.2.2.2.2.2.2.2.2.2.1, d.2.2.1.2.2.2.2.2.2.2.2.2.2.2.2.2.1, d.2.2.1.2.2.2.2.2.2.2.2.2.2.2.2.2.2.1, d.2.2.1.2.2.2.2.2.2.2.2.2.2.2.2.2.2.2.1, d.2.2.1.2.2.2.2.2.2.2.2.2.2.2.2.2.2.2.2.1, d.2.2.1.2.2.2.2.2.2.2.2.2.2.2.2.2.2.2.2.2.1, d.2.2.2.1.1, d.2.2.2.1.2.1, d.2.2.2.1.2.2.1, d.2.2.2.1.2.2.2.1, d.2.2.2.1.2.2.2.2.1, d.2.2.2.1.2.2.2.2.2.1, d.2.2.2.1.2.2.2.2.2.2.1)
def un_check_scope_stmt_64_0_0_0 (x : X_check_scope_stmt_64_0_0_0) : StD x_check_scope_stmt_64_0_0_0 := (((), ()), (((((x.1, x.2.1, x.2.2.1, x.2.2.2.1, x.2.2.2.2.1, x.2.2.2.2.2.1, x.2.2.2.2.2.2.1, ()), ()), ()), ()), (x.2.2.2.2.2.2.2.1, x.2.2.2.2.2.2.2.2.1, x.2.2.2.2.2.2.2.2.2.1, x.2.2.2.2.2.2.2.2.2.2.1, x.2.2.2.2.2.2.2.2.2.2.2.1, x.2.2.2.2.2.2.2.2.2.2.2.2.1, x.2.2.2.2.2.2.2.2.2.2.2.2.2.1, x.2.2.2.2.2.2.2.2.2.2.2.2.2.2.1, x.2.2.2.2.2.2.2.2.2.2.2.2.2.2.2.1, x.2.2.2.2.2.2.2.2.2.2.2.2.2.2.2.2.1, x.2.2.2.2.2.2.2.2.2.2.2.2.2.2.2.2.2.1, x.2.2.2.2.2.2.2.2.2.2.2.2.2.2.2.2.2.2.1, x.2.2.2.2.2.2.2.2.2.2.2.2.2.2.2.2.2.2.2.1, x.2.2.2.2.2.2.2.2.2.2.2.2.2.2.2.2.2.2.2.2.1, x.2.2.2.2.2.2.2.2.2.2.2.2.2.2.2.2.2.2.2.2.2.1, x.2.2.2.2.2.2.2.2.2.2.2.2.2.2.2.2.2.2.2.2.2.2.1, x.2.2.2.2.2.2.2.2.2.2.2.2.2.2.2.2.2.2.2.2.2.2.2.1, x.2.2.2.2.2.2.2.2.2.2.2.2.2.2.2.2.2.2.2.2.2.2.2.2.1, ()), (x.2.2.2.2.2.2.2.2.2.2.2.2.2.2.2.2.2.2.2.2.2.2.2.2.2.1, x.2.2.2.2.2.2.2.2.2.2.2.2.2.2.2.2.2.2.2.2.2.2.2.2.2.2.1, x.2.2.2.2.2.2.2.2.2.2.2.2.2.2.2.2.2.2.2.2.2.2.2.2.2.2.2.1, x.2.2.2.2.2.2.2.2.2.2.2.2.2.2.2.2.2.2.2.2.2.2.2.2.2.2.2.2.1, x.2.2.2.2.2.2.2.2.2.2.2.2.2.2.2.2.2.2.2.2.2.2.2.2.2.2.2.2.2.1, x.2.2.2.2.2.2.2.2.2.2.2.2.2.2.2.2.2.2.2.2.2.2.2.2.2.2.2.2.2.2.1, x.2.2.2.2.2.2.2.2.2.2.2.2.2.2.2.2.2.2.2.2.2.2.2.2.2.2.2.2.2.2.2, ()), ()))
abbrev X_check_scope_stmt_64_0_0_1 := (Int × (List Gb) × (List Gb) × (List ByteArray) × (List Th) × ByteArray × (List ByteArray) × (List (RT.C 2)) × Int × ByteArray × Int × Int × Int × ByteArray × (List (RT.C 0)) × Int × Int × Int × ByteArray × (List (RT.C 0)) × Int × Int × (List (RT.C 0)) × (List (RT.C 1)) × (List (RT.C 2)) × (List (RT.C 2)) × (List Gb) × (List Gb) × (List ByteArray) × (List Th) × ByteArray × (List ByteArray) × (List (RT.C 2)))
def fl_check_scope_stmt_64_0_0_1 (d : StD x_check_scope_stmt_64_0_0_1) : X_check_scope_stmt_64_0_0_1 := (d.1.1, d.2.1.1.1.1.1, d.2.1.1.1.1.2.1, d.2.1.1.1.1.2.2.1, d.2.1.1.1.1.2.2.2.1, d.2.1.1.1.1.2.2.2.2.1, d.2.1.1.1.1.2.2.2.2.2.1, d.2.1.1.1.1.2.2.2.2.2.2.1, d.2.2.1.1, d.2.2.1.2.1, d.2.2.1.2.2.1, d.2.2.1.2.2.2.1, d.2.2.1.2.2.2.2.1, d.2.2.1.2.2.2.2.2.1, d.2.2.1.2.2.2.2.2.2.1, d.2.2.1.2.2.2.2.2.2.2.1, d.2.2.1.2.2.2.2.2.2.2.2.1, d.2.2.1.2.2.2.2.2.2.2.2.2.1, d.2.2.1.2.2.2.2.2.2.2.2.2.2.1, d.2.2.1.2.2.2.2.2.2.2.2.2.2.2.1, d.2.2.1.2.2.2.2.2.2.2.2.2.2.2.2.1, d.2.2.1.2.2.2.2.2.2.2.2.2.2.2.2.2.1, d.2.2.1.2.2.2.2.2.2.2.2.2.2.2.2.2.2.1, d.2.2.1.2.2.2.2.2.2.2.2.2.2.2.2.2.2.2.1, d.2.2.1.2.2.2.2.2.2.2.2.2.2.2.2.2.2.2.2.1, d.2.2.1.2.2.2.2.2.2.2.2.2.2.2.2.2.2.2.2.2.1, d.2.2.2.1.1, d.2.2.2.1.2.1, d.2.2.2.1.2.2.1, d.2.2.2.1.2.2.2.1, d.2.2.2.1.2.2.2.2.1, d.2.2.2.1.2.2.2.2.2.1, d.2.2.2.1.2.2.2.2.2.2.1)
def un_check_scope_stmt_64_0_0_1 (x : X_check_scope_stmt_64_0_0_1) : StD x_check_scope_stmt_64_0_0_1 := ((x.1, ()), (((((x.2.1, x.2.2.1, x.2.2.2.1, x.2.2.2.2.1, x.2.2.2.2.2.1, x.2.2.2.2.2.2.1, x.2.2.2.2.2.2.2.1, ()), ()), ()), ()), (x.2.2.2.2.2.2.2.2.1, x.2.2.2.2.2.2.2.2.2.1, x.2.2.2.2.2.2.2.2.2.2.1, x.2.2.2.2.2.2.2.2.2.2.2.1, x.2.2.2.2.2.2.2.2.2.2.2.2.1, x.2.2.2.2.2.2.2.2.2.2.2.2.2.1, x.2.2.2.2.2.2.2.2.2.2.2.2.2.2.1, x.2.2.2.2.2.2.2.2.2.2.2.2.2.2.2.1, x.2.2.2.2.2.2.2.2.2.2.2.2.2.2.2.2.1, x.2.2.2.2.2.2.2.2.2.2.2.2.2.2.2.2.2.1, x.2.2.2.2.2.2.2.2.2.2.2.2.2.2.2.2.2.2.1, x.2.2.2.2.2.2.2.2.2.2.2.2.2.2.2.2.2.2.2.1, x.2.2.2.2.2.2.2.2.2.2.2.2.2.2.2.2.2.2.2.2.1, x.2.2.2.2.2.2.2.2.2.2.2.2.2.2.2.2.2.2.2.2.2.1, x.2.2.2.2.2.2.2.2.2.2.2.2.2.2.2.2.2.2.2.2.2.2.1, x.2.2.2.2.2.2.2.2.2.2.2.2.2.2.2.2.2.2.2.2.2.2.2.1, x.2.2.2.2.2.2.2.2.2.2.2.2.2.2.2.2.2.2.2.2.2.2.2.2.1, x.2.2.2.2.2.2.2.2.2.2.2.2.2.2.2.2.2.2.2.2.2.2.2.2.2.1, ()), (x.2.2.2.2.2.2.2.2.2.2.2.2.2.2.2.2.2.2.2.2.2.2.2.2.2.2.1, x.2.2.2.2.2.2.2.2.2.2.2.2.2.2.2.2.2.2.2.2.2.2.2.2.2.2.2.1, x.2.2.2.2.2.2.2.2.2.2.2.2.2.2.2.2.2.2.2.2.2.2.2.2.2.2.2.2.1, x.2.2.2.2.2.2.2.2.2.2.2.2.2.2.2.2.2.2.2.2.2.2.2.2.2.2.2.2.2.1, x.2.2.2.2.2.2.2.2.2.2.2.2.2.2.2.2.2.2.2.2.2.2.2.2.2.2.2.2.2.2.1, x.2.2.2.2.2.2.2.2.2.2.2.2.2.2.2.2.2.2.2.2.2.2.2.2.2.2.2.2.2.2.2.1, x.2.2.2.2.2.2.2.2.2.2.2.2.2.2.2.2.2.2.2.2.2.2.2.2.2.2.2.2.2.2.2.2, ()), ()))
noncomputable def st_check_scope_stmt_64_0_0 (s0 : (List (RT.C 2))) (s7 : Int) (s8 : Int) (b2 : (List Gb)) (b2_1 : (List Gb)) (b2_2 : (List ByteArray)) (b2_3 : (List Th)) (b2_4 : ByteArray) (b2_5 : (List ByteArray)) (b2_6 : (List (RT.C 2))) (b1 : Int) (b1_1 : ByteArray) (b1_2 : Int) (b1_3 : Int) (b1_4 : Int) (b1_5 : ByteArray) (b1_6 : (List (RT.C 0))) (b1_7 : Int) (b1_8 : Int) (b1_9 : Int) (b1_10 : ByteArray) (b1_11 : (List (RT.C 0))) (b1_12 : Int) (b1_13 : Int) (b1_14 : (List (RT.C 0))) (b1_15 : (List (RT.C 1))) (b1_16 : (List (RT.C 2))) (b1_17 : (List (RT.C 2))) (b0 : (List Gb)) (b0_1 : (List Gb)) (b0_2 : (List ByteArray)) (b0_3 : (List Th)) (b0_4 : ByteArray) (b0_5 : (List ByteArray)) (b0_6 : (List (RT.C 2))) : Option (((List (RT.C 2)) × Int × Int × (List Gb) × (List Gb) × (List ByteArray) × (List Th) × ByteArray × (List ByteArray) × (List (RT.C 2)) × Int × ByteArray × Int × Int × Int × ByteArray × (List (RT.C 0)) × Int × Int × Int × ByteArray × (List (RT.C 0)) × Int × Int × (List (RT.C 0)) × (List (RT.C 1)) × (List (RT.C 2)) × (List (RT.C 2)) × (List Gb) × (List Gb) × (List ByteArray) × (List Th) × ByteArray × (List ByteArray) × (List (RT.C 2))) ⊕ (((List Gb) × (List Gb) × (List ByteArray) × (List Th) × ByteArray × (List ByteArray) × (List (RT.C 2)) × Int × ByteArray × Int × Int × Int × ByteArray × (List (RT.C 0)) × Int × Int × Int × ByteArray × (List (RT.C 0)) × Int × Int × (List (RT.C 0)) × (List (RT.C 1)) × (List (RT.C 2)) × (List (RT.C 2)) × (List Gb) × (List Gb) × (List ByteArray) × (List Th) × ByteArray × (List ByteArray) × (List (RT.C 2))) ⊕ (Int × (List Gb) × (List Gb) × (List ByteArray) × (List Th) × ByteArray × (List ByteArray) × (List (RT.C 2)) × Int × ByteArray × Int × Int × Int × ByteArray × (List (RT.C 0)) × Int × Int × Int × ByteArray × (List (RT.C 0)) × Int × Int × (List (RT.C 0)) × (List (RT.C 1)) × (List (RT.C 2)) × (List (RT.C 2)) × (List Gb) × (List Gb) × (List ByteArray) × (List Th) × ByteArray × (List ByteArray) × (List (RT.C 2))))) :=
  bif decide (s8 < s7) then
 bif decide (0 ≤ s8) then
 optC s0[s8.toNat]? none fun d39 ↦
 optC (Rec_check_scope_stmt.K (((b2, b2_1, b2_2, b2_3), b2_4, b2_5, b2_6), uT2 d39, ())) none fun d40 ↦
 bif !d40 then
 some
 (Sum.inr
 (Sum.inr
 (s8, b2, b2_1, b2_2, b2_3, b2_4, b2_5, b2_6, b1, b1_1, b1_2, b1_3, b1_4, b1_5, b1_6, b1_7, b1_8, b1_9, b1_10, b1_11, b1_12, b1_13, b1_14, b1_15, b1_16, b1_17, b0, b0_1, b0_2, b0_3,
 b0_4, b0_5, b0_6)))
 else
 some
 (Sum.inl
 (s0, s7, Go.IntKind.i64.wrap (s8 + 1), b2, b2_1, b2_2, b2_3, b2_4, b2_5, b2_6, b1, b1_1, b1_2, b1_3, b1_4, b1_5, b1_6, b1_7, b1_8, b1_9, b1_10, b1_11, b1_12, b1_13, b1_14, b1_15, b1_16,
 b1_17, b0, b0_1, b0_2, b0_3, b0_4, b0_5, b0_6))
 else none
 else
 some
 (Sum.inr
 (Sum.inl
 (b2, b2_1, b2_2, b2_3, b2_4, b2_5, b2_6, b1, b1_1, b1_2, b1_3, b1_4, b1_5, b1_6, b1_7, b1_8, b1_9, b1_10, b1_11, b1_12, b1_13, b1_14, b1_15, b1_16, b1_17, b0, b0_1, b0_2, b0_3, b0_4, b0_5,
 b0_6)))
noncomputable def sx_check_scope_stmt_64_0_0 (x : X_check_scope_stmt_64_0_0) : Option (X_check_scope_stmt_64_0_0 ⊕ (X_check_scope_stmt_64_0_0_0 ⊕ X_check_scope_stmt_64_0_0_1)) := st_check_scope_stmt_64_0_0 x.1 x.2.1 x.2.2.1 x.2.2.2.1 x.2.2.2.2.1 x.2.2.2.2.2.1 x.2.2.2.2.2.2.1 x.2.2.2.2.2.2.2.1 x.2.2.2.2.2.2.2.2.1 x.2.2.2.2.2.2.2.2.2.1 x.2.2.2.2.2.2.2.2.2.2.1 x.2.2.2.2.2.2.2.2.2.2.2.1 x.2.2.2.2.2.2.2.2.2.2.2.2.1 x.2.2.2.2.2.2.2.2.2.2.2.2.2.1 x.2.2.2.2.2.2.2.2.2.2.2.2.2.2.1 x.2.2.2.2.2.2.2.2.2.2.2.2.2.2.2.1 x.2.2.2.2.2.2.2.2.2.2.2.2.2.2.2.2.1 x.2.2.2.2.2.2.2.2.2.2.2.2.2.2.2.2.2.1 x.2.2.2.2.2.2.2.2.2.2.2.2.2.2.2.2.2.2.1 x.2.2.2.2.2.2.2.2.2.2.2.2.2.2.2.2.2.2.2.1 x.2.2.2.2.2.2.2.2.2.2.2.2.2.2.2.2.2.2.2.2.1 x.2.2.2.2.2.2.2.2.2.2.2.2.2.2.2.2.2.2.2.2.2.1 x.2.2.2.2.2.2.2.2.2.2.2.2.2.2.2.2.2.2.2.2.2.2.1 x.2.2.2.2.2.2.2.2.2.2.2.2.2.2.2.2.2.2.2.2.2.2.2.1 x.2.2.2.2.2.2.2.2.2.2.2.2.2.2.2.2.2.2.2.2.2.2.2.2.1 x.2.2.2.2.2.2.2.2.2.2.2.2.2.2.2.2.2.2.2.2.2.2.2.2.2.1 x.2.2.2.2.2.2.2.2.2.2.2.2.2.2.2.2.2.2.2.2.2.2.2.2.2.2.1 x.2.2.2.2.2.2.2.2.2.2.2.2.2.2.2.2.2.2.2.2.2.2.2.2.2.2.2.1 x.2.2.2.2.2.2.2.2.2.2.2.2.2.2.2.2.2.2.2.2.2.2.2.2.2.2.2.2.1 x.2.2.2.2.2.2.2.2.2.2.2.2.2.2.2.2.2.2.2.2.2.2.2.2.2.2.2.2.2.1 x.2.2.2.2.2.2.2.2.2.2.2.2.2.2.2.2.2.2.2.2.2.2.2.2.2.2.2.2.2.2.1 x.2.2.2.2.2.2.2.2.2.2.2.2.2.2.2.2.2.2.2.2.2.2.2.2.2.2.2.2.2.2.2.1 x.2.2.2.2.2.2.2.2.2.2.2.2.2.2.2.2.2.2.2.2.2.2.2.2.2.2.2.2.2.2.2.2.1 x.2.2.2.2.2.2.2.2.2.2.2.2.2.2.2.2.2.2.2.2.2.2.2.2.2.2.2.2.2.2.2.2.2.1 x.2.2.2.2.2.2.2.2.2.2.2.2.2.2.2.2.2.2.2.2.2.2.2.2.2.2.2.2.2.2.2.2.2.2
theorem rn_check_scope_stmt_64_0_0 (x : X_check_scope_stmt_64_0_0) : rdX (cxU sp_check_scope_stmt [] 40 (1048576 ^ 9)) keeps 8 ⟨64, 19, keeps 64, 3⟩ 0 (bodyX 64 0) 3 kp_check_scope_stmt_64_0 (sT s_check_scope_stmt_64_0_0 (un_check_scope_stmt_64_0_0 x)) (sH s_check_scope_stmt_64_0_0 (un_check_scope_stmt_64_0_0 x)) (rdO (fun T h => (rdS s_check_scope_stmt_64_0_0 T h).map fl_check_scope_stmt_64_0_0) (getOr (getE 2 x_check_scope_stmt_64_0_0_0 fl_check_scope_stmt_64_0_0_0) (getE 1 x_check_scope_stmt_64_0_0_1 fl_check_scope_stmt_64_0_0_1))) = sx_check_scope_stmt_64_0_0 x := by kernel_rfl
noncomputable def L_check_scope_stmt_64_0_0 (x : X_check_scope_stmt_64_0_0) : Option (X_check_scope_stmt_64_0_0_0 ⊕ X_check_scope_stmt_64_0_0_1) := iterO (fun x => st_check_scope_stmt_64_0_0 x.1 x.2.1 x.2.2.1 x.2.2.2.1 x.2.2.2.2.1 x.2.2.2.2.2.1 x.2.2.2.2.2.2.1 x.2.2.2.2.2.2.2.1 x.2.2.2.2.2.2.2.2.1 x.2.2.2.2.2.2.2.2.2.1 x.2.2.2.2.2.2.2.2.2.2.1 x.2.2.2.2.2.2.2.2.2.2.2.1 x.2.2.2.2.2.2.2.2.2.2.2.2.1 x.2.2.2.2.2.2.2.2.2.2.2.2.2.1 x.2.2.2.2.2.2.2.2.2.2.2.2.2.2.1 x.2.2.2.2.2.2.2.2.2.2.2.2.2.2.2.1 x.2.2.2.2.2.2.2.2.2.2.2.2.2.2.2.2.1 x.2.2.2.2.2.2.2.2.2.2.2.2.2.2.2.2.2.1 x.2.2.2.2.2.2.2.2.2.2.2.2.2.2.2.2.2.2.1 x.2.2.2.2.2.2.2.2.2.2.2.2.2.2.2.2.2.2.2.1 x.2.2.2.2.2.2.2.2.2.2.2.2.2.2.2.2.2.2.2.2.1 x.2.2.2.2.2.2.2.2.2.2.2.2.2.2.2.2.2.2.2.2.2.1 x.2.2.2.2.2.2.2.2.2.2.2.2.2.2.2.2.2.2.2.2.2.2.1 x.2.2.2.2.2.2.2.2.2.2.2.2.2.2.2.2.2.2.2.2.2.2.2.1 x.2.2.2.2.2.2.2.2.2.2.2.2.2.2.2.2.2.2.2.2.2.2.2.2.1 x.2.2.2.2.2.2.2.2.2.2.2.2.2.2.2.2.2.2.2.2.2.2.2.2.2.1 x.2.2.2.2.2.2.2.2.2.2.2.2.2.2.2.2.2.2.2.2.2.2.2.2.2.2.1 x.2.2.2.2.2.2.2.2.2.2.2.2.2.2.2.2.2.2.2.2.2.2.2.2.2.2.2.1 x.2.2.2.2.2.2.2.2.2.2.2.2.2.2.2.2.2.2.2.2.2.2.2.2.2.2.2.2.1 x.2.2.2.2.2.2.2.2.2.2.2.2.2.2.2.2.2.2.2.2.2.2.2.2.2.2.2.2.2.1 x.2.2.2.2.2.2.2.2.2.2.2.2.2.2.2.2.2.2.2.2.2.2.2.2.2.2.2.2.2.2.1 x.2.2.2.2.2.2.2.2.2.2.2.2.2.2.2.2.2.2.2.2.2.2.2.2.2.2.2.2.2.2.2.1 x.2.2.2.2.2.2.2.2.2.2.2.2.2.2.2.2.2.2.2.2.2.2.2.2.2.2.2.2.2.2.2.2.1 x.2.2.2.2.2.2.2.2.2.2.2.2.2.2.2.2.2.2.2.2.2.2.2.2.2.2.2.2.2.2.2.2.2.1 x.2.2.2.2.2.2.2.2.2.2.2.2.2.2.2.2.2.2.2.2.2.2.2.2.2.2.2.2.2.2.2.2.2.2) FUEL x
noncomputable def q_check_scope_stmt_64_0 : Nat → Tm → Prog (Nat × Tm) := (varP 3 (fun T h => (rdS s_check_scope_stmt_64_0_0 T h).map fl_check_scope_stmt_64_0_0) L_check_scope_stmt_64_0_0 (fun y => .alt y (altE 2 x_check_scope_stmt_64_0_0_0 un_check_scope_stmt_64_0_0_0) (altE 1 x_check_scope_stmt_64_0_0_1 un_check_scope_stmt_64_0_0_1)) (varP 4 (fun T h => (rdS s_check_scope_stmt_64_0_1 T h).map fl_check_scope_stmt_64_0_1) L_check_scope_stmt_64_0_1 (fun y => .alt y (altE 2 x_check_scope_stmt_64_0_1_0 un_check_scope_stmt_64_0_1_0) (altE 1 x_check_scope_stmt_64_0_1_1 un_check_scope_stmt_64_0_1_1)) (fun _ _ => .fail)))
noncomputable def lc_check_scope_stmt_64_0 : Lpc := ⟨64, 0, 19, (fun base T => .norm base (kp_check_scope_stmt_64_0 0) T (q_check_scope_stmt_64_0 base)), by kernel_rfl, by kernel_rfl, (loopU sp_check_scope_stmt [] 40 (1048576 ^ 9) 8 (keep := kp_check_scope_stmt_64_0) (q := q_check_scope_stmt_64_0) (by kernel_rfl) (varX_ok (s := s_check_scope_stmt_64_0_0) (un := un_check_scope_stmt_64_0_0) (by rfl) (fun _ => rfl) (getOr_ok (getE_ok (s := x_check_scope_stmt_64_0_0_0) (un := un_check_scope_stmt_64_0_0_0) (by rfl) (fun _ => rfl)) (getE_ok (s := x_check_scope_stmt_64_0_0_1) (un := un_check_scope_stmt_64_0_0_1) (by rfl) (fun _ => rfl))) (step := sx_check_scope_stmt_64_0_0) rn_check_scope_stmt_64_0_0 (fun _ _ e => ⟨_, e⟩) (altOr_ok (altE_ok 2 x_check_scope_stmt_64_0_0_0 un_check_scope_stmt_64_0_0_0) (altE_ok 1 x_check_scope_stmt_64_0_0_1 un_check_scope_stmt_64_0_0_1)) (varX_ok (s := s_check_scope_stmt_64_0_1) (un := un_check_scope_stmt_64_0_1) (by rfl) (fun _ => rfl) (getOr_ok (getE_ok (s := x_check_scope_stmt_64_0_1_0) (un := un_check_scope_stmt_64_0_1_0) (by rfl) (fun _ => rfl)) (getE_ok (s := x_check_scope_stmt_64_0_1_1) (un := un_check_scope_stmt_64_0_1_1) (by rfl) (fun _ => rfl))) (step := sx_check_scope_stmt_64_0_1) rn_check_scope_stmt_64_0_1 (fun _ _ e => ⟨_, e⟩) (altOr_ok (altE_ok 2 x_check_scope_stmt_64_0_1_0 un_check_scope_stmt_64_0_1_0) (altE_ok 1 x_check_scope_stmt_64_0_1_1 un_check_scope_stmt_64_0_1_1)) (VarOk.fail _ _))))⟩
noncomputable def g_check_scope_stmt (a0 : (Pg × Th)) (a1 : Stm) : Option Bool :=
  bif a1.1 == 1 then
 optC (G_check_scope_isVar (a0, a1.2.1, ())) none fun d6 ↦
 bif d6 then optC (G_check_scope_expr (a0, a1.2.2.2.1, ())) none fun d7 ↦ some d7 else some false
 else
 bif a1.1 == 2 then
 optC (G_check_Array (a0.1, a1.2.1, ())) none fun d6 ↦
 bif decide (d6 ≥ 0) then
 optC (G_check_scope_expr (a0, a1.2.2.1, ())) none fun d7 ↦
 bif d7 then optC (G_check_scope_expr (a0, a1.2.2.2.1, ())) none fun d8 ↦ some d8 else some false
 else some false
 else
 bif a1.1 == 3 then optC (G_check_Mutex (a0.1, a1.2.1, ())) none fun d6 ↦ some (decide (d6 ≥ 0))
 else
 bif a1.1 == 4 then optC (G_check_Mutex (a0.1, a1.2.1, ())) none fun d6 ↦ some (decide (d6 ≥ 0))
 else
 bif a1.1 == 5 then
 optC (G_check_scope_cond (a0, a1.2.2.2.2.1, ())) none fun d6 ↦
 bif d6 then
 optC
 (L_check_scope_stmt_64_0_0
 (a1.2.2.2.2.2.1, (↑(List.length a1.2.2.2.2.2.1) : Int), 0, a0.1.1, a0.1.2.1, a0.1.2.2.1, a0.1.2.2.2, a0.2.1, a0.2.2.1,
 a0.2.2.2, a1.1, a1.2.1, a1.2.2.1.1, a1.2.2.1.2.1, a1.2.2.1.2.2.1, a1.2.2.1.2.2.2.1, a1.2.2.1.2.2.2.2,
 a1.2.2.2.1.1, a1.2.2.2.1.2.1, a1.2.2.2.1.2.2.1, a1.2.2.2.1.2.2.2.1, a1.2.2.2.1.2.2.2.2,
 a1.2.2.2.2.1.1, a1.2.2.2.2.1.2.1, a1.2.2.2.2.1.2.2.1, a1.2.2.2.2.1.2.2.2, a1.2.2.2.2.2.1,
 a1.2.2.2.2.2.2, a0.1.1, a0.1.2.1, a0.1.2.2.1, a0.1.2.2.2, a0.2))
 none fun d7 ↦
 Sum.elim
 (fun e8 ↦
 optC
 (L_check_scope_stmt_64_0_1
 (e8.2.2.2.2.2.2.2.2.2.2.2.2.2.2.2.2.2.2.2.2.2.2.2.2.1,
 (↑e8.2.2.2.2.2.2.2.2.2.2.2.2.2.2.2.2.2.2.2.2.2.2.2.2.1.length : Int), 0,
 e8.2.2.2.2.2.2.2.2.2.2.2.2.2.2.2.2.2.2.2.2.2.2.2.2.2.1,
 e8.2.2.2.2.2.2.2.2.2.2.2.2.2.2.2.2.2.2.2.2.2.2.2.2.2.2.1,
 e8.2.2.2.2.2.2.2.2.2.2.2.2.2.2.2.2.2.2.2.2.2.2.2.2.2.2.2.1,
 e8.2.2.2.2.2.2.2.2.2.2.2.2.2.2.2.2.2.2.2.2.2.2.2.2.2.2.2.2.1,
 e8.2.2.2.2.2.2.2.2.2.2.2.2.2.2.2.2.2.2.2.2.2.2.2.2.2.2.2.2.2.1,
 e8.2.2.2.2.2.2.2.2.2.2.2.2.2.2.2.2.2.2.2.2.2.2.2.2.2.2.2.2.2.2.1,
 e8.2.2.2.2.2.2.2.2.2.2.2.2.2.2.2.2.2.2.2.2.2.2.2.2.2.2.2.2.2.2.2, e8))
 none fun d9 ↦ Sum.elim (fun e10 ↦ some !decide (-1 ≥ 0)) (fun e10 ↦ some !decide (e10.1 ≥ 0)) d9)
 (fun e8 ↦
 bif !decide (e8.1 ≥ 0) then
 optC
 (L_check_scope_stmt_64_0_1
 (e8.2.2.2.2.2.2.2.2.2.2.2.2.2.2.2.2.2.2.2.2.2.2.2.2.2.1,
 (↑e8.2.2.2.2.2.2.2.2.2.2.2.2.2.2.2.2.2.2.2.2.2.2.2.2.2.1.length : Int), 0,
 e8.2.2.2.2.2.2.2.2.2.2.2.2.2.2.2.2.2.2.2.2.2.2.2.2.2.2.1,
 e8.2.2.2.2.2.2.2.2.2.2.2.2.2.2.2.2.2.2.2.2.2.2.2.2.2.2.2.1,
 e8.2.2.2.2.2.2.2.2.2.2.2.2.2.2.2.2.2.2.2.2.2.2.2.2.2.2.2.2.1,
 e8.2.2.2.2.2.2.2.2.2.2.2.2.2.2.2.2.2.2.2.2.2.2.2.2.2.2.2.2.2.1,
 e8.2.2.2.2.2.2.2.2.2.2.2.2.2.2.2.2.2.2.2.2.2.2.2.2.2.2.2.2.2.2.1,
 e8.2.2.2.2.2.2.2.2.2.2.2.2.2.2.2.2.2.2.2.2.2.2.2.2.2.2.2.2.2.2.2.1,
 e8.2.2.2.2.2.2.2.2.2.2.2.2.2.2.2.2.2.2.2.2.2.2.2.2.2.2.2.2.2.2.2.2, e8.2))
 none fun d9 ↦ Sum.elim (fun e10 ↦ some !decide (-1 ≥ 0)) (fun e10 ↦ some !decide (e10.1 ≥ 0)) d9
 else some false)
 d7
 else some false
 else
 bif a1.1 == 6 then
 optC (G_check_scope_cond (a0, a1.2.2.2.2.1, ())) none fun d6 ↦
 bif d6 then
 optC
 (L_check_scope_stmt_64_0_0
 (a1.2.2.2.2.2.1, (↑(List.length a1.2.2.2.2.2.1) : Int), 0, a0.1.1, a0.1.2.1, a0.1.2.2.1, a0.1.2.2.2, a0.2.1, a0.2.2.1,
 a0.2.2.2, a1.1, a1.2.1, a1.2.2.1.1, a1.2.2.1.2.1, a1.2.2.1.2.2.1, a1.2.2.1.2.2.2.1, a1.2.2.1.2.2.2.2,
 a1.2.2.2.1.1, a1.2.2.2.1.2.1, a1.2.2.2.1.2.2.1, a1.2.2.2.1.2.2.2.1, a1.2.2.2.1.2.2.2.2,
 a1.2.2.2.2.1.1, a1.2.2.2.2.1.2.1, a1.2.2.2.2.1.2.2.1, a1.2.2.2.2.1.2.2.2, a1.2.2.2.2.2.1,
 a1.2.2.2.2.2.2, a0.1.1, a0.1.2.1, a0.1.2.2.1, a0.1.2.2.2, a0.2))
 none fun d7 ↦ Sum.elim (fun e8 ↦ some !decide (-1 ≥ 0)) (fun e8 ↦ some !decide (e8.1 ≥ 0)) d7
 else some false
 else bif a1.1 == 7 then optC (G_check_scope_cond (a0, a1.2.2.2.2.1, ())) none fun d6 ↦ some d6 else some true
theorem raw_check_scope_stmt (a0 : (Pg × Th)) (a1 : Stm) : evGX1 (cxU sp_check_scope_stmt [lc_check_scope_stmt_64_0] 40 (1048576 ^ 9)) keeps 8 16 ash_check_scope_stmt (.dat .bool) ((a0, a1, ()) : ((Pg × Th) × (Stm × Unit))) = g_check_scope_stmt a0 a1 := by kernel_rfl
noncomputable def GI_check_scope_stmt (x : ((Pg × Th) × (Stm × Unit))) : Option Bool := g_check_scope_stmt x.1 x.2.1
noncomputable def conI_check_scope_stmt : List AV → Prog AV := conP true ash_check_scope_stmt (.dat .bool) GI_check_scope_stmt
theorem sndI_check_scope_stmt : SoundA Tryd.prog 16 conI_check_scope_stmt := conP_sound (evF1_sound (tabOk_of tab_ok) (cmpsOk_of tab_ok cmps_ok) mixed (inU sp_check_scope_stmt [lc_check_scope_stmt_64_0] 40 (1048576 ^ 9)) (hspL sp_check_scope_stmt) keeps 8 16) true (by rfl) (by rfl) (fun x r e => (evGX1_eq _ _ _ _ _ _ _).trans ((raw_check_scope_stmt x.1 x.2.1).trans e)) (.inl rfl)
end
noncomputable def it_check_scope_stmt : Nat → {K : ((Pg × Th) × (Stm × Unit)) → Option Bool // SoundA Tryd.prog 16 (conP true ash_check_scope_stmt (.dat .bool) K)}
  | 0 => ⟨fun _ => none, conP_none⟩
  | k + 1 => letI : Rec_check_scope_stmt := ⟨(it_check_scope_stmt k).1, (it_check_scope_stmt k).2⟩; ⟨GI_check_scope_stmt, sndI_check_scope_stmt⟩
noncomputable def G_check_scope_stmt (x : ((Pg × Th) × (Stm × Unit))) : Option Bool := (it_check_scope_stmt (SizeOf.sizeOf x + 1)).1 x
noncomputable def con_check_scope_stmt : List AV → Prog AV := conP true ash_check_scope_stmt (.dat .bool) G_check_scope_stmt
theorem snd_check_scope_stmt : SoundA Tryd.prog 16 con_check_scope_stmt := conP_pick (sh := ash_check_scope_stmt) (rs := .dat .bool) (n := fun x : ((Pg × Th) × (Stm × Unit)) => SizeOf.sizeOf x + 1) (F := fun k => (it_check_scope_stmt k).1) (fun k => (it_check_scope_stmt k).2)
end Go.Proofs.YtmjbedjnojcmfaaDoor.Ex

namespace Go.Proofs.YtmjbedjnojcmfaaDoor.Ex
open Go.Proofs Go.Proofs.YtmjbedjnojcmfaaDoor
set_option maxRecDepth 100000
set_option maxHeartbeats 2000000
set_option linter.unusedVariables false
set_option linter.unusedSimpArgs false
def ash_check_Check : List Sh := [.dat tPg]
def kp_check_Check_64_0 : Nat → List Nat := fun c => bif c.beq 0 then [0, 1, 7, 8] else [4]
def kp_check_Check_63_0 : Nat → List Nat := fun c => bif c.beq 0 then [0, 1, 7, 8] else [4]
noncomputable def sp_check_Check : List Con := [⟨10, con_check_fits, snd_check_fits⟩, ⟨11, con_check_isForm, snd_check_isForm⟩, ⟨12, con_check_isAlone, snd_check_isAlone⟩, ⟨16, con_check_scope_stmt, snd_check_scope_stmt⟩]
def s_check_Check_64_0_0 : StS := ⟨[(0, .sl (.mu 2)), (1, .clo 37 [] [.ptr 4 0]), (7, .int .i64), (8, .int .i64)], [(4, .box [.clo 16 [.agg [.sl tGb, .sl tGb, .sl .str, .sl tTh, .str, .sl .str, .sl (.mu 2)]] []]), (3, .box [.str, .sl .str, .sl (.mu 2)]), (2, .box [.str, .sl .str, .sl (.mu 2)]), (1, .box [.clo 14 [] [.ptr 0 0]]), (0, .box [.sl tGb, .sl tGb, .sl .str, .sl tTh])], 5⟩
def x_check_Check_64_0_0_0 : StS := ⟨[(4, .undef)], [(4, .box [.clo 16 [.agg [.sl tGb, .sl tGb, .sl .str, .sl tTh, .str, .sl .str, .sl (.mu 2)]] []]), (3, .box [.str, .sl .str, .sl (.mu 2)]), (2, .box [.str, .sl .str, .sl (.mu 2)]), (1, .box [.clo 14 [] [.ptr 0 0]]), (0, .box [.sl tGb, .sl tGb, .sl .str, .sl tTh])], 5⟩
def x_check_Check_64_0_0_1 : StS := ⟨[(4, .int .i64)], [(4, .box [.clo 16 [.agg [.sl tGb, .sl tGb, .sl .str, .sl tTh, .str, .sl .str, .sl (.mu 2)]] []]), (3, .box [.str, .sl .str, .sl (.mu 2)]), (2, .box [.str, .sl .str, .sl (.mu 2)]), (1, .box [.clo 14 [] [.ptr 0 0]]), (0, .box [.sl tGb, .sl tGb, .sl .str, .sl tTh])], 5⟩
abbrev X_check_Check_64_0_0 := ((List (RT.C 2)) × Int × Int × (List Gb) × (List Gb) × (List ByteArray) × (List Th) × ByteArray × (List ByteArray) × (List (RT.C 2)) × ByteArray × (List ByteArray) × (List (RT.C 2)) × ByteArray × (List ByteArray) × (List (RT.C 2)) × (List Gb) × (List Gb) × (List ByteArray) × (List Th))
def fl_check_Check_64_0_0 (d : StD s_check_Check_64_0_0) : X_check_Check_64_0_0 := (d.1.1, d.1.2.2.1, d.1.2.2.2.1, d.2.1.1.1.1.1, d.2.1.1.1.1.2.1, d.2.1.1.1.1.2.2.1, d.2.1.1.1.1.2.2.2.1, d.2.1.1.1.1.2.2.2.2.1, d.2.1.1.1.1.2.2.2.2.2.1, d.2.1.1.1.1.2.2.2.2.2.2.1, d.2.2.1.1, d.2.2.1.2.1, d.2.2.1.2.2.1, d.2.2.2.1.1, d.2.2.2.1.2.1, d.2.2.2.1.2.2.1, d.2.2.2.2.2.1.1, d.2.2.2.2.2.1.2.1, d.2.2.2.2.2.1.2.2.1, d.2.2.2.2.2.1.2.2.2.1)
def un_check_Check_64_0_0 (x : X_check_Check_64_0_0) : StD s_check_Check_64_0_0 := ((x.1, ((), ((), ())), x.2.1, x.2.2.1, ()), (((((x.2.2.2.1, x.2.2.2.2.1, x.2.2.2.2.2.1, x.2.2.2.2.2.2.1, x.2.2.2.2.2.2.2.1, x.2.2.2.2.2.2.2.2.1, x.2.2.2.2.2.2.2.2.2.1, ()), ()), ()), ()), (x.2.2.2.2.2.2.2.2.2.2.1, x.2.2.2.2.2.2.2.2.2.2.2.1, x.2.2.2.2.2.2.2.2.2.2.2.2.1, ()), (x.2.2.2.2.2.2.2.2.2.2.2.2.2.1, x.2.2.2.2.2.2.2.2.2.2.2.2.2.2.1, x.2.2.2.2.2.2.2.2.2.2.2.2.2.2.2.1, ()), (((), ((), ())), ()), (x.2.2.2.2.2.2.2.2.2.2.2.2.2.2.2.2.1, x.2.2.2.2.2.2.2.2.2.2.2.2.2.2.2.2.2.1, x.2.2.2.2.2.2.2.2.2.2.2.2.2.2.2.2.2.2.1, x.2.2.2.2.2.2.2.2.2.2.2.2.2.2.2.2.2.2.2, ()), ()))
abbrev X_check_Check_64_0_0_0 := ((List Gb) × (List Gb) × (List ByteArray) × (List Th) × ByteArray × (List ByteArray) × (List (RT.C 2)) × ByteArray × (List ByteArray) × (List (RT.C 2)) × ByteArray × (List ByteArray) × (List (RT.C 2)) × (List Gb) × (List Gb) × (List ByteArray) × (List Th))
def fl_check_Check_64_0_0_0 (d : StD x_check_Check_64_0_0_0) : X_check_Check_64_0_0_0 := (d.2.1.1.1.1.1, d.2.1.1.1.1.2.1, d.2.1.1.1.1.2.2.1, d.2.1.1.1.1.2.2.2.1, d.2.1.1.1.1.2.2.2.2.1, d.2.1.1.1.1.2.2.2.2.2.1, d.2.1.1.1.1.2.2.2.2.2.2.1, d.2.2.1.1, d.2.2.1.2.1, d.2.2.1.2.2.1, d.2.2.2.1.1, d.2.2.2.1.2.1, d.2.2.2.1.2.2.1, d.2.2.2.2.2.1.1, d.2.2.2.2.2.1.2.1, d.2.2.2.2.2.1.2.2.1, d.2.2.2.2.2.1.2.2.2.1)
def un_check_Check_64_0_0_0 (x : X_check_Check_64_0_0_0) : StD x_check_Check_64_0_0_0 := (((), ()), (((((x.1, x.2.1, x.2.2.1, x.2.2.2.1, x.2.2.2.2.1, x.2.2.2.2.2.1, x.2.2.2.2.2.2.1, ()), ()), ()), ()), (x.2.2.2.2.2.2.2.1, x.2.2.2.2.2.2.2.2.1, x.2.2.2.2.2.2.2.2.2.1, ()), (x.2.2.2.2.2.2.2.2.2.2.1, x.2.2.2.2.2.2.2.2.2.2.2.1, x.2.2.2.2.2.2.2.2.2.2.2.2.1, ()), (((), ((), ())), ()), (x.2.2.2.2.2.2.2.2.2.2.2.2.2.1, x.2.2.2.2.2.2.2.2.2.2.2.2.2.2.1, x.2.2.2.2.2.2.2.2.2.2.2.2.2.2.2.1, x.2.2.2.2.2.2.2.2.2.2.2.2.2.2.2.2, ()), ()))
abbrev X_check_Check_64_0_0_1 := (Int × (List Gb) × (List Gb) × (List ByteArray) × (List Th) × ByteArray × (List ByteArray) × (List (RT.C 2)) × ByteArray × (List ByteArray) × (List (RT.C 2)) × ByteArray × (List ByteArray) × (List (RT.C 2)) × (List Gb) × (List Gb) × (List ByteArray) × (List Th))
def fl_check_Check_64_0_0_1 (d : StD x_check_Check_64_0_0_1) : X_check_Check_64_0_0_1 := (d.1.1, d.2.1.1.1.1.1, d.2.1.1.1.1.2.1, d.2.1.1.1.1.2.2.1, d.2.1.1.1.1.2.2.2.1, d.2.1.1.1.1.2.2.2.2.1, d.2.1.1.1.1.2.2.2.2.2.1, d.2.1.1.1.1.2.2.2.2.2.2.1, d.2.2.1.1, d.2.2.1.2.1, d.2.2.1.2.2.1, d.2.2.2.1.1, d.2.2.2.1.2.1, d.2.2.2.1.2.2.1, d.2.2.2.2.2.1.1, d.2.2.2.2.2.1.2.1, d.2.2.2.2.2.1.2.2.1, d.2.2.2.2.2.1.2.2.2.1)
def un_check_Check_64_0_0_1 (x : X_check_Check_64_0_0_1) : StD x_check_Check_64_0_0_1 := ((x.1, ()), (((((x.2.1, x.2.2.1, x.2.2.2.1, x.2.2.2.2.1, x.2.2.2.2.2.1, x.2.2.2.2.2.2.1, x.2.2.2.2.2.2.2.1, ()), ()), ()), ()), (x.2.2.2.2.2.2.2.2.1, x.2.2.2.2.2.2.2.2.2.1, x.2.2.2.2.2.2.2.2.2.2.1, ()), (x.2.2.2.2.2.2.2.2.2.2.2.1, x.2.2.2.2.2.2.2.2.2.2.2.2.1, x.2.2.2.2.2.2.2.2.2.2.2.2.2.1, ()), (((), ((), ())), ()), (x.2.2.2.2.2.2.2.2.2.2.2.2.2.2.1, x.2.2.2.2.2.2.2.2.2.2.2.2.2.2.2.1, x.2.2.2.2.2.2.2.2.2.2.2.2.2.2.2.2.1, x.2.2.2.2.2.2.2.2.2.2.2.2.2.2.2.2.2, ()), ()))
noncomputable def st_check_Check_64_0_0 (s0 : (List (RT.C 2))) (s7 : Int) (s8 : Int) (b4 : (List Gb)) (b4_1 : (List Gb)) (b4_2 : (List ByteArray)) (b4_3 : (List Th)) (b4_4 : ByteArray) (b4_5 : (List ByteArray)) (b4_6 : (List (RT.C 2))) (b3 : ByteArray) (b3_1 : (List ByteArray)) (b3_2 : (List (RT.C 2))) (b2 : ByteArray) (b2_1 : (List ByteArray)) (b2_2 : (List (RT.C 2))) (b0 : (List Gb)) (b0_1 : (List Gb)) (b0_2 : (List ByteArray)) (b0_3 : (List Th)) : Option (((List (RT.C 2)) × Int × Int × (List Gb) × (List Gb) × (List ByteArray) × (List Th) × ByteArray × (List ByteArray) × (List (RT.C 2)) × ByteArray × (List ByteArray) × (List (RT.C 2)) × ByteArray × (List ByteArray) × (List (RT.C 2)) × (List Gb) × (List Gb) × (List ByteArray) × (List Th)) ⊕ (((List Gb) × (List Gb) × (List ByteArray) × (List Th) × ByteArray × (List ByteArray) × (List (RT.C 2)) × ByteArray × (List ByteArray) × (List (RT.C 2)) × ByteArray × (List ByteArray) × (List (RT.C 2)) × (List Gb) × (List Gb) × (List ByteArray) × (List Th)) ⊕ (Int × (List Gb) × (List Gb) × (List ByteArray) × (List Th) × ByteArray × (List ByteArray) × (List (RT.C 2)) × ByteArray × (List ByteArray) × (List (RT.C 2)) × ByteArray × (List ByteArray) × (List (RT.C 2)) × (List Gb) × (List Gb) × (List ByteArray) × (List Th)))) :=
  bif decide (s8 < s7) then
 bif decide (0 ≤ s8) then
 optC s0[s8.toNat]? none fun d23 ↦
 optC (G_check_scope_stmt (((b4, b4_1, b4_2, b4_3), b4_4, b4_5, b4_6), uT2 d23, ())) none fun d24 ↦
 bif !d24 then some (Sum.inr (Sum.inr (s8, b4, b4_1, b4_2, b4_3, b4_4, b4_5, b4_6, b3, b3_1, b3_2, b2, b2_1, b2_2, b0, b0_1, b0_2, b0_3)))
 else some (Sum.inl (s0, s7, Go.IntKind.i64.wrap (s8 + 1), b4, b4_1, b4_2, b4_3, b4_4, b4_5, b4_6, b3, b3_1, b3_2, b2, b2_1, b2_2, b0, b0_1, b0_2, b0_3))
 else none
 else some (Sum.inr (Sum.inl (b4, b4_1, b4_2, b4_3, b4_4, b4_5, b4_6, b3, b3_1, b3_2, b2, b2_1, b2_2, b0, b0_1, b0_2, b0_3)))
noncomputable def sx_check_Check_64_0_0 (x : X_check_Check_64_0_0) : Option (X_check_Check_64_0_0 ⊕ (X_check_Check_64_0_0_0 ⊕ X_check_Check_64_0_0_1)) := st_check_Check_64_0_0 x.1 x.2.1 x.2.2.1 x.2.2.2.1 x.2.2.2.2.1 x.2.2.2.2.2.1 x.2.2.2.2.2.2.1 x.2.2.2.2.2.2.2.1 x.2.2.2.2.2.2.2.2.1 x.2.2.2.2.2.2.2.2.2.1 x.2.2.2.2.2.2.2.2.2.2.1 x.2.2.2.2.2.2.2.2.2.2.2.1 x.2.2.2.2.2.2.2.2.2.2.2.2.1 x.2.2.2.2.2.2.2.2.2.2.2.2.2.1 x.2.2.2.2.2.2.2.2.2.2.2.2.2.2.1 x.2.2.2.2.2.2.2.2.2.2.2.2.2.2.2.1 x.2.2.2.2.2.2.2.2.2.2.2.2.2.2.2.2.1 x.2.2.2.2.2.2.2.2.2.2.2.2.2.2.2.2.2.1 x.2.2.2.2.2.2.2.2.2.2.2.2.2.2.2.2.2.2.1 x.2.2.2.2.2.2.2.2.2.2.2.2.2.2.2.2.2.2.2
theorem rn_check_Check_64_0_0 (x : X_check_Check_64_0_0) : rdX (cxU sp_check_Check [] 40 1048576) keeps 8 ⟨64, 19, keeps 64, 5⟩ 0 (bodyX 64 0) 5 kp_check_Check_64_0 (sT s_check_Check_64_0_0 (un_check_Check_64_0_0 x)) (sH s_check_Check_64_0_0 (un_check_Check_64_0_0 x)) (rdO (fun T h => (rdS s_check_Check_64_0_0 T h).map fl_check_Check_64_0_0) (getOr (getE 2 x_check_Check_64_0_0_0 fl_check_Check_64_0_0_0) (getE 1 x_check_Check_64_0_0_1 fl_check_Check_64_0_0_1))) = sx_check_Check_64_0_0 x := by kernel_rfl
noncomputable def L_check_Check_64_0_0 (x : X_check_Check_64_0_0) : Option (X_check_Check_64_0_0_0 ⊕ X_check_Check_64_0_0_1) := iterO (fun x => st_check_Check_64_0_0 x.1 x.2.1 x.2.2.1 x.2.2.2.1 x.2.2.2.2.1 x.2.2.2.2.2.1 x.2.2.2.2.2.2.1 x.2.2.2.2.2.2.2.1 x.2.2.2.2.2.2.2.2.1 x.2.2.2.2.2.2.2.2.2.1 x.2.2.2.2.2.2.2.2.2.2.1 x.2.2.2.2.2.2.2.2.2.2.2.1 x.2.2.2.2.2.2.2.2.2.2.2.2.1 x.2.2.2.2.2.2.2.2.2.2.2.2.2.1 x.2.2.2.2.2.2.2.2.2.2.2.2.2.2.1 x.2.2.2.2.2.2.2.2.2.2.2.2.2.2.2.1 x.2.2.2.2.2.2.2.2.2.2.2.2.2.2.2.2.1 x.2.2.2.2.2.2.2.2.2.2.2.2.2.2.2.2.2.1 x.2.2.2.2.2.2.2.2.2.2.2.2.2.2.2.2.2.2.1 x.2.2.2.2.2.2.2.2.2.2.2.2.2.2.2.2.2.2.2) FUEL x
noncomputable def q_check_Check_64_0 : Nat → Tm → Prog (Nat × Tm) := (varP 5 (fun T h => (rdS s_check_Check_64_0_0 T h).map fl_check_Check_64_0_0) L_check_Check_64_0_0 (fun y => .alt y (altE 2 x_check_Check_64_0_0_0 un_check_Check_64_0_0_0) (altE 1 x_check_Check_64_0_0_1 un_check_Check_64_0_0_1)) (fun _ _ => .fail))
noncomputable def lc_check_Check_64_0 : Lpc := ⟨64, 0, 19, (fun base T => .norm base (kp_check_Check_64_0 0) T (q_check_Check_64_0 base)), by kernel_rfl, by kernel_rfl, (loopU sp_check_Check [] 40 1048576 8 (keep := kp_check_Check_64_0) (q := q_check_Check_64_0) (by kernel_rfl) (varX_ok (s := s_check_Check_64_0_0) (un := un_check_Check_64_0_0) (by rfl) (fun _ => rfl) (getOr_ok (getE_ok (s := x_check_Check_64_0_0_0) (un := un_check_Check_64_0_0_0) (by rfl) (fun _ => rfl)) (getE_ok (s := x_check_Check_64_0_0_1) (un := un_check_Check_64_0_0_1) (by rfl) (fun _ => rfl))) (step := sx_check_Check_64_0_0) rn_check_Check_64_0_0 (fun _ _ e => ⟨_, e⟩) (altOr_ok (altE_ok 2 x_check_Check_64_0_0_0 un_check_Check_64_0_0_0) (altE_ok 1 x_check_Check_64_0_0_1 un_check_Check_64_0_0_1)) (VarOk.fail _ _)))⟩
noncomputable abbrev cx_check_Check_63_0 := cxU sp_check_Check [lc_check_Check_64_0] 40 1048576
def s_check_Check_63_0_0 : StS := ⟨[(0, .sl tTh), (1, .clo 35 [] [.ptr 1 0]), (7, .int .i64), (8, .int .i64)], [(1, .box [.clo 14 [] [.ptr 0 0]]), (0, .box [.sl tGb, .sl tGb, .sl .str, .sl tTh])], 2⟩
def x_check_Check_63_0_0_0 : StS := ⟨[(4, .undef)], [(1, .box [.clo 14 [] [.ptr 0 0]]), (0, .box [.sl tGb, .sl tGb, .sl .str, .sl tTh])], 2⟩
def x_check_Check_63_0_0_1 : StS := ⟨[(4, .int .i64)], [(1, .box [.clo 14 [] [.ptr 0 0]]), (0, .box [.sl tGb, .sl tGb, .sl .str, .sl tTh])], 2⟩
abbrev X_check_Check_63_0_0 := ((List Th) × Int × Int × (List Gb) × (List Gb) × (List ByteArray) × (List Th))
def fl_check_Check_63_0_0 (d : StD s_check_Check_63_0_0) : X_check_Check_63_0_0 := (d.1.1, d.1.2.2.1, d.1.2.2.2.1, d.2.2.1.1, d.2.2.1.2.1, d.2.2.1.2.2.1, d.2.2.1.2.2.2.1)
def un_check_Check_63_0_0 (x : X_check_Check_63_0_0) : StD s_check_Check_63_0_0 := ((x.1, ((), ((), ())), x.2.1, x.2.2.1, ()), ((((), ((), ())), ()), (x.2.2.2.1, x.2.2.2.2.1, x.2.2.2.2.2.1, x.2.2.2.2.2.2, ()), ()))
abbrev X_check_Check_63_0_0_0 := ((List Gb) × (List Gb) × (List ByteArray) × (List Th))
def fl_check_Check_63_0_0_0 (d : StD x_check_Check_63_0_0_0) : X_check_Check_63_0_0_0 := (d.2.2.1.1, d.2.2.1.2.1, d.2.2.1.2.2.1, d.2.2.1.2.2.2.1)
def un_check_Check_63_0_0_0 (x : X_check_Check_63_0_0_0) : StD x_check_Check_63_0_0_0 := (((), ()), ((((), ((), ())), ()), (x.1, x.2.1, x.2.2.1, x.2.2.2, ()), ()))
abbrev X_check_Check_63_0_0_1 := (Int × (List Gb) × (List Gb) × (List ByteArray) × (List Th))
def fl_check_Check_63_0_0_1 (d : StD x_check_Check_63_0_0_1) : X_check_Check_63_0_0_1 := (d.1.1, d.2.2.1.1, d.2.2.1.2.1, d.2.2.1.2.2.1, d.2.2.1.2.2.2.1)
def un_check_Check_63_0_0_1 (x : X_check_Check_63_0_0_1) : StD x_check_Check_63_0_0_1 := ((x.1, ()), ((((), ((), ())), ()), (x.2.1, x.2.2.1, x.2.2.2.1, x.2.2.2.2, ()), ()))
noncomputable def st_check_Check_63_0_0 (s0 : (List Th)) (s7 : Int) (s8 : Int) (b0 : (List Gb)) (b0_1 : (List Gb)) (b0_2 : (List ByteArray)) (b0_3 : (List Th)) : Option (((List Th) × Int × Int × (List Gb) × (List Gb) × (List ByteArray) × (List Th)) ⊕ (((List Gb) × (List Gb) × (List ByteArray) × (List Th)) ⊕ (Int × (List Gb) × (List Gb) × (List ByteArray) × (List Th)))) :=
  bif decide (s8 < s7) then
 bif decide (0 ≤ s8) then
 optC s0[s8.toNat]? none fun d10 ↦
 optC
 (L_check_Check_64_0_0
 (d10.2.2, (↑(List.length d10.2.2) : Int), 0, b0, b0_1, b0_2, b0_3, d10.1, d10.2.1, d10.2.2, d10.1, d10.2.1, d10.2.2, d10.1, d10.2.1, d10.2.2, b0, b0_1,
 b0_2, b0_3))
 none fun d11 ↦
 Sum.elim
 (fun e12 ↦
 some
 (Sum.inl
 (s0, s7, Go.IntKind.i64.wrap (s8 + 1), e12.2.2.2.2.2.2.2.2.2.2.2.2.2.1, e12.2.2.2.2.2.2.2.2.2.2.2.2.2.2.1,
 e12.2.2.2.2.2.2.2.2.2.2.2.2.2.2.2.1, e12.2.2.2.2.2.2.2.2.2.2.2.2.2.2.2.2)))
 (fun e12 ↦
 bif !!decide (e12.1 ≥ 0) then
 some
 (Sum.inr
 (Sum.inr
 (s8, e12.2.2.2.2.2.2.2.2.2.2.2.2.2.2.1, e12.2.2.2.2.2.2.2.2.2.2.2.2.2.2.2.1,
 e12.2.2.2.2.2.2.2.2.2.2.2.2.2.2.2.2.1, e12.2.2.2.2.2.2.2.2.2.2.2.2.2.2.2.2.2)))
 else
 some
 (Sum.inl
 (s0, s7, Go.IntKind.i64.wrap (s8 + 1), e12.2.2.2.2.2.2.2.2.2.2.2.2.2.2.1, e12.2.2.2.2.2.2.2.2.2.2.2.2.2.2.2.1,
 e12.2.2.2.2.2.2.2.2.2.2.2.2.2.2.2.2.1, e12.2.2.2.2.2.2.2.2.2.2.2.2.2.2.2.2.2)))
 d11
 else none
 else some (Sum.inr (Sum.inl (b0, b0_1, b0_2, b0_3)))
noncomputable def sx_check_Check_63_0_0 (x : X_check_Check_63_0_0) : Option (X_check_Check_63_0_0 ⊕ (X_check_Check_63_0_0_0 ⊕ X_check_Check_63_0_0_1)) := st_check_Check_63_0_0 x.1 x.2.1 x.2.2.1 x.2.2.2.1 x.2.2.2.2.1 x.2.2.2.2.2.1 x.2.2.2.2.2.2
theorem rn_check_Check_63_0_0 (x : X_check_Check_63_0_0) : rdX cx_check_Check_63_0 keeps 8 ⟨63, 19, keeps 63, 2⟩ 0 (bodyX 63 0) 2 kp_check_Check_63_0 (sT s_check_Check_63_0_0 (un_check_Check_63_0_0 x)) (sH s_check_Check_63_0_0 (un_check_Check_63_0_0 x)) (rdO (fun T h => (rdS s_check_Check_63_0_0 T h).map fl_check_Check_63_0_0) (getOr (getE 2 x_check_Check_63_0_0_0 fl_check_Check_63_0_0_0) (getE 1 x_check_Check_63_0_0_1 fl_check_Check_63_0_0_1))) = sx_check_Check_63_0_0 x := by kernel_rfl
noncomputable def L_check_Check_63_0_0 (x : X_check_Check_63_0_0) : Option (X_check_Check_63_0_0_0 ⊕ X_check_Check_63_0_0_1) := iterO (fun x => st_check_Check_63_0_0 x.1 x.2.1 x.2.2.1 x.2.2.2.1 x.2.2.2.2.1 x.2.2.2.2.2.1 x.2.2.2.2.2.2) FUEL x
noncomputable def q_check_Check_63_0 : Nat → Tm → Prog (Nat × Tm) := (varP 2 (fun T h => (rdS s_check_Check_63_0_0 T h).map fl_check_Check_63_0_0) L_check_Check_63_0_0 (fun y => .alt y (altE 2 x_check_Check_63_0_0_0 un_check_Check_63_0_0_0) (altE 1 x_check_Check_63_0_0_1 un_check_Check_63_0_0_1)) (fun _ _ => .fail))
noncomputable def lc_check_Check_63_0 : Lpc := ⟨63, 0, 19, (fun base T => .norm base (kp_check_Check_63_0 0) T (q_check_Check_63_0 base)), by kernel_rfl, by kernel_rfl, (loopU sp_check_Check [lc_check_Check_64_0] 40 1048576 8 (keep := kp_check_Check_63_0) (q := q_check_Check_63_0) (by kernel_rfl) (varX_ok (s := s_check_Check_63_0_0) (un := un_check_Check_63_0_0) (by rfl) (fun _ => rfl) (getOr_ok (getE_ok (s := x_check_Check_63_0_0_0) (un := un_check_Check_63_0_0_0) (by rfl) (fun _ => rfl)) (getE_ok (s := x_check_Check_63_0_0_1) (un := un_check_Check_63_0_0_1) (by rfl) (fun _ => rfl))) (step := sx_check_Check_63_0_0) rn_check_Check_63_0_0 (fun _ _ e => ⟨_, e⟩) (altOr_ok (altE_ok 2 x_check_Check_63_0_0_0 un_check_Check_63_0_0_0) (altE_ok 1 x_check_Check_63_0_0_1 un_check_Check_63_0_0_1)) (VarOk.fail _ _)))⟩
noncomputable def g_check_Check (a0 : Pg) : Option Int :=
  optC (G_check_fits (a0, ())) none fun d4 ↦
 bif !d4 then some 4
 else
 optC (G_check_isForm (a0, ())) none fun d5 ↦
 bif !d5 then some 2
 else
 optC (G_check_isAlone (a0, ())) none fun d6 ↦
 bif !d6 then some 5
 else
 optC (L_check_Check_63_0_0 (a0.2.2.2, (↑(List.length a0.2.2.2) : Int), 0, a0)) none fun d7 ↦
 Sum.elim (fun e8 ↦ some 0) (fun e8 ↦ bif !!decide (e8.1 ≥ 0) then some 6 else some 0) d7
theorem raw_check_Check (a0 : Pg) : evGX (cxU sp_check_Check [lc_check_Check_64_0, lc_check_Check_63_0] 40 1048576) keeps 8 7 ash_check_Check (.dat (.int .i64)) ((a0, ()) : (Pg × Unit)) = g_check_Check a0 := by kernel_rfl
noncomputable def G_check_Check (x : (Pg × Unit)) : Option Int := g_check_Check x.1
noncomputable def con_check_Check : List AV → Prog AV := conP false ash_check_Check (.dat (.int .i64)) G_check_Check
theorem snd_check_Check : SoundA Tryd.prog 7 con_check_Check := conP_sound (calU sp_check_Check [lc_check_Check_64_0, lc_check_Check_63_0] 40 1048576 8 7) false (by rfl) (by rfl) (fun x r e => (evGX_eq _ _ _ _ _ _ _).trans ((raw_check_Check x.1).trans e)) (.inr fun _ => rfl)
end Go.Proofs.YtmjbedjnojcmfaaDoor.Ex

namespace Go.Proofs.YtmjbedjnojcmfaaDoor.Ex
open Go.Proofs Go.Proofs.YtmjbedjnojcmfaaDoor
set_option maxRecDepth 100000
set_option maxHeartbeats 2000000
set_option linter.unusedVariables false
set_option linter.unusedSimpArgs false
def ash_law7_known : List Sh := []
noncomputable def sp_law7_known : List Con := [⟨7, con_check_Check, snd_check_Check⟩, ⟨17, con_check_Mutex, snd_check_Mutex⟩]
noncomputable def g_law7_known  : Option Bool :=
  some (-1 == -1)
theorem raw_law7_known  : evGX (cxU sp_law7_known [] 40 1048576) keeps 8 8 ash_law7_known (.dat .bool) (() : Unit) = g_law7_known  := by kernel_rfl
noncomputable def G_law7_known (x : Unit) : Option Bool := g_law7_known 
noncomputable def con_law7_known : List AV → Prog AV := conP true ash_law7_known (.dat .bool) G_law7_known
theorem snd_law7_known : SoundA Tryd.prog 8 con_law7_known := conP_sound (calU sp_law7_known [] 40 1048576 8 8) true (by rfl) (by rfl) (fun x r e => (evGX_eq _ _ _ _ _ _ _).trans ((raw_law7_known ).trans e)) (.inl rfl)
end Go.Proofs.YtmjbedjnojcmfaaDoor.Ex

namespace Go.Proofs.YtmjbedjnojcmfaaDoor.Ex
open Go.Proofs Go.Proofs.YtmjbedjnojcmfaaDoor
set_option maxRecDepth 100000
set_option maxHeartbeats 2000000
set_option linter.unusedVariables false
set_option linter.unusedSimpArgs false
noncomputable def conD_check_Check : List AV → Prog AV := conP true ash_check_Check (.dat (.int .i64)) G_check_Check
theorem sndD_check_Check : SoundA Tryd.prog 7 conD_check_Check := conP_sound (calU sp_check_Check [lc_check_Check_64_0, lc_check_Check_63_0] 40 1048576 8 7) true (by rfl) (by rfl) (fun x r e => (evGX_eq _ _ _ _ _ _ _).trans ((raw_check_Check x.1).trans e)) (.inl rfl)
def ash_law7_CheckMany : List Sh := [.dat (.int .i64), .dat (.int .i64)]
noncomputable def sp_law7_CheckMany : List Con := [⟨7, conD_check_Check, sndD_check_Check⟩, ⟨8, con_law7_known, snd_law7_known⟩]
noncomputable def GR_law7_CheckMany (x : Int × Int × Unit) : Option Bool := evGX (cxU sp_law7_CheckMany [] 40 1048577) keeps 8 5 ash_law7_CheckMany (.dat .bool) x
noncomputable def GS_law7_CheckMany (x : Int × Int × Unit) : Option Bool := evGX (cxU sp_law7_CheckMany [] 40 1048576) keeps 8 5 ash_law7_CheckMany (.dat .bool) x
noncomputable def GF_law7_CheckMany (x : Int × Int × Unit) : Option Bool := evGX (cxU sp_law7_CheckMany [] 0 1048577) keeps 8 5 ash_law7_CheckMany (.dat .bool) x
theorem raw_law7_CheckMany (n k : Int) : GF_law7_CheckMany (n, k, ()) = (bif decide (n < 0) then some true else bif decide (n > 9) then some true else bif decide (k < 0) then some true else bif decide (k > 4) then some true else bif k == 3 then none else none) := by kernel_rfl
theorem cm_0_0 : GR_law7_CheckMany (0, 0, ()) = some true := by kernel_rfl
theorem cm_0_1 : GR_law7_CheckMany (0, 1, ()) = some true := by kernel_rfl
theorem cm_0_2 : GR_law7_CheckMany (0, 2, ()) = some true := by kernel_rfl
theorem cm_0_3 : GS_law7_CheckMany (0, 3, ()) = some true := by kernel_rfl
theorem cm_0_4 : GR_law7_CheckMany (0, 4, ()) = some true := by kernel_rfl
theorem cm_1_0 : GR_law7_CheckMany (1, 0, ()) = some true := by kernel_rfl
theorem cm_1_1 : GR_law7_CheckMany (1, 1, ()) = some true := by kernel_rfl
theorem cm_1_2 : GR_law7_CheckMany (1, 2, ()) = some true := by kernel_rfl
theorem cm_1_3 : GS_law7_CheckMany (1, 3, ()) = some true := by kernel_rfl
theorem cm_1_4 : GR_law7_CheckMany (1, 4, ()) = some true := by kernel_rfl
theorem cm_2_0 : GR_law7_CheckMany (2, 0, ()) = some true := by kernel_rfl
theorem cm_2_1 : GR_law7_CheckMany (2, 1, ()) = some true := by kernel_rfl
theorem cm_2_2 : GR_law7_CheckMany (2, 2, ()) = some true := by kernel_rfl
theorem cm_2_3 : GS_law7_CheckMany (2, 3, ()) = some true := by kernel_rfl
theorem cm_2_4 : GR_law7_CheckMany (2, 4, ()) = some true := by kernel_rfl
theorem cm_3_0 : GR_law7_CheckMany (3, 0, ()) = some true := by kernel_rfl
theorem cm_3_1 : GR_law7_CheckMany (3, 1, ()) = some true := by kernel_rfl
theorem cm_3_2 : GR_law7_CheckMany (3, 2, ()) = some true := by kernel_rfl
theorem cm_3_3 : GS_law7_CheckMany (3, 3, ()) = some true := by kernel_rfl
theorem cm_3_4 : GR_law7_CheckMany (3, 4, ()) = some true := by kernel_rfl
theorem cm_4_0 : GR_law7_CheckMany (4, 0, ()) = some true := by kernel_rfl
theorem cm_4_1 : GR_law7_CheckMany (4, 1, ()) = some true := by kernel_rfl
theorem cm_4_2 : GR_law7_CheckMany (4, 2, ()) = some true := by kernel_rfl
theorem cm_4_3 : GS_law7_CheckMany (4, 3, ()) = some true := by kernel_rfl
theorem cm_4_4 : GR_law7_CheckMany (4, 4, ()) = some true := by kernel_rfl
theorem cm_5_0 : GR_law7_CheckMany (5, 0, ()) = some true := by kernel_rfl
theorem cm_5_1 : GR_law7_CheckMany (5, 1, ()) = some true := by kernel_rfl
theorem cm_5_2 : GR_law7_CheckMany (5, 2, ()) = some true := by kernel_rfl
theorem cm_5_3 : GS_law7_CheckMany (5, 3, ()) = some true := by kernel_rfl
theorem cm_5_4 : GR_law7_CheckMany (5, 4, ()) = some true := by kernel_rfl
theorem cm_6_0 : GR_law7_CheckMany (6, 0, ()) = some true := by kernel_rfl
theorem cm_6_1 : GR_law7_CheckMany (6, 1, ()) = some true := by kernel_rfl
theorem cm_6_2 : GR_law7_CheckMany (6, 2, ()) = some true := by kernel_rfl
theorem cm_6_3 : GS_law7_CheckMany (6, 3, ()) = some true := by kernel_rfl
theorem cm_6_4 : GR_law7_CheckMany (6, 4, ()) = some true := by kernel_rfl
theorem cm_7_0 : GR_law7_CheckMany (7, 0, ()) = some true := by kernel_rfl
theorem cm_7_1 : GR_law7_CheckMany (7, 1, ()) = some true := by kernel_rfl
theorem cm_7_2 : GR_law7_CheckMany (7, 2, ()) = some true := by kernel_rfl
theorem cm_7_3 : GS_law7_CheckMany (7, 3, ()) = some true := by kernel_rfl
theorem cm_7_4 : GR_law7_CheckMany (7, 4, ()) = some true := by kernel_rfl
theorem cm_8_0 : GR_law7_CheckMany (8, 0, ()) = some true := by kernel_rfl
theorem cm_8_1 : GR_law7_CheckMany (8, 1, ()) = some true := by kernel_rfl
theorem cm_8_2 : GR_law7_CheckMany (8, 2, ()) = some true := by kernel_rfl
theorem cm_8_3 : GS_law7_CheckMany (8, 3, ()) = some true := by kernel_rfl
theorem cm_8_4 : GR_law7_CheckMany (8, 4, ()) = some true := by kernel_rfl
theorem cm_9_0 : GR_law7_CheckMany (9, 0, ()) = some true := by kernel_rfl
theorem cm_9_1 : GR_law7_CheckMany (9, 1, ()) = some true := by kernel_rfl
theorem cm_9_2 : GR_law7_CheckMany (9, 2, ()) = some true := by kernel_rfl
theorem cm_9_3 : GS_law7_CheckMany (9, 3, ()) = some true := by kernel_rfl
theorem cm_9_4 : GR_law7_CheckMany (9, 4, ()) = some true := by kernel_rfl
def inA (args : List AV) : Bool := match args with
  | [.int _ n, .int _ k] => (decide (0 ≤ n) && decide (n ≤ 9)) && (decide (0 ≤ k) && decide (k ≤ 4))
  | _ => false
def inB (args : List AV) : Bool := match args with
  | [.int _ n, .int _ k] => k == 3
  | _ => false
noncomputable def conR_law7_CheckMany : List AV → Prog AV := conP true ash_law7_CheckMany (.dat .bool) GR_law7_CheckMany
theorem sndR_law7_CheckMany : SoundA Tryd.prog 5 conR_law7_CheckMany := conP_sound (calU sp_law7_CheckMany [] 40 1048577 8 5) true (by rfl) (by rfl) (fun x r e => (evGX_eq _ _ _ _ _ _ _).trans e) (.inl rfl)
noncomputable def conS_law7_CheckMany : List AV → Prog AV := conP true ash_law7_CheckMany (.dat .bool) GS_law7_CheckMany
theorem sndS_law7_CheckMany : SoundA Tryd.prog 5 conS_law7_CheckMany := conP_sound (calU sp_law7_CheckMany [] 40 1048576 8 5) true (by rfl) (by rfl) (fun x r e => (evGX_eq _ _ _ _ _ _ _).trans e) (.inl rfl)
noncomputable def conF_law7_CheckMany : List AV → Prog AV := conP true ash_law7_CheckMany (.dat .bool) GF_law7_CheckMany
theorem sndF_law7_CheckMany : SoundA Tryd.prog 5 conF_law7_CheckMany := conP_sound (calU sp_law7_CheckMany [] 0 1048577 8 5) true (by rfl) (by rfl) (fun x r e => (evGX_eq _ _ _ _ _ _ _).trans e) (.inl rfl)
noncomputable def con_law7_CheckMany : List AV → Prog AV := pickS inA (pickS inB conS_law7_CheckMany conR_law7_CheckMany) conF_law7_CheckMany
theorem snd_law7_CheckMany : SoundA Tryd.prog 5 con_law7_CheckMany := SoundA.pick inA (SoundA.pick inB sndS_law7_CheckMany sndR_law7_CheckMany) sndF_law7_CheckMany
theorem many_in (n k : Int) (h : ((decide (0 ≤ n) && decide (n ≤ 9)) && (decide (0 ≤ k) && decide (k ≤ 4))) = true) (h3 : (k == 3) = false) : GR_law7_CheckMany (n, k, ()) = some true := by
  simp only [Bool.and_eq_true, decide_eq_true_eq] at h
  rw [beq_eq_false_iff_ne] at h3
  have hn : n = 0 ∨ n = 1 ∨ n = 2 ∨ n = 3 ∨ n = 4 ∨ n = 5 ∨ n = 6 ∨ n = 7 ∨ n = 8 ∨ n = 9 := by omega
  have hk : k = 0 ∨ k = 1 ∨ k = 2 ∨ k = 4 := by omega
  clear h3 h
  rcases hn with rfl | rfl | rfl | rfl | rfl | rfl | rfl | rfl | rfl | rfl <;> rcases hk with rfl | rfl | rfl | rfl
  · exact cm_0_0
  · exact cm_0_1
  · exact cm_0_2
  · exact cm_0_4
  · exact cm_1_0
  · exact cm_1_1
  · exact cm_1_2
  · exact cm_1_4
  · exact cm_2_0
  · exact cm_2_1
  · exact cm_2_2
  · exact cm_2_4
  · exact cm_3_0
  · exact cm_3_1
  · exact cm_3_2
  · exact cm_3_4
  · exact cm_4_0
  · exact cm_4_1
  · exact cm_4_2
  · exact cm_4_4
  · exact cm_5_0
  · exact cm_5_1
  · exact cm_5_2
  · exact cm_5_4
  · exact cm_6_0
  · exact cm_6_1
  · exact cm_6_2
  · exact cm_6_4
  · exact cm_7_0
  · exact cm_7_1
  · exact cm_7_2
  · exact cm_7_4
  · exact cm_8_0
  · exact cm_8_1
  · exact cm_8_2
  · exact cm_8_4
  · exact cm_9_0
  · exact cm_9_1
  · exact cm_9_2
  · exact cm_9_4
theorem many_in3 (n k : Int) (h : ((decide (0 ≤ n) && decide (n ≤ 9)) && (decide (0 ≤ k) && decide (k ≤ 4))) = true) (h3 : (k == 3) = true) : GS_law7_CheckMany (n, k, ()) = some true := by
  simp only [Bool.and_eq_true, decide_eq_true_eq] at h
  obtain rfl : k = 3 := by simpa using h3
  have hn : n = 0 ∨ n = 1 ∨ n = 2 ∨ n = 3 ∨ n = 4 ∨ n = 5 ∨ n = 6 ∨ n = 7 ∨ n = 8 ∨ n = 9 := by omega
  clear h3 h
  rcases hn with rfl | rfl | rfl | rfl | rfl | rfl | rfl | rfl | rfl | rfl
  · exact cm_0_3
  · exact cm_1_3
  · exact cm_2_3
  · exact cm_3_3
  · exact cm_4_3
  · exact cm_5_3
  · exact cm_6_3
  · exact cm_7_3
  · exact cm_8_3
  · exact cm_9_3
theorem many_out (n k : Int) (h : ((decide (0 ≤ n) && decide (n ≤ 9)) && (decide (0 ≤ k) && decide (k ≤ 4))) = false) : GF_law7_CheckMany (n, k, ()) = some true := by
  rw [raw_law7_CheckMany]
  by_cases h1 : n < 0
  · rw [decide_eq_true h1]; rfl
  by_cases h2 : n > 9
  · rw [decide_eq_false h1, decide_eq_true h2]; rfl
  by_cases h3 : k < 0
  · rw [decide_eq_false h1, decide_eq_false h2, decide_eq_true h3]; rfl
  by_cases h4 : k > 4
  · rw [decide_eq_false h1, decide_eq_false h2, decide_eq_false h3, decide_eq_true h4]; rfl
  exfalso
  simp only [Bool.and_eq_false_iff, decide_eq_false_iff_not] at h
  omega
theorem checkMany {args : List AV} (n k : Int) (h1 : rds ash_law7_CheckMany args = some (n, k, ())) (h2 : AV.idsL args = []) (ha : inA args = ((decide (0 ≤ n) && decide (n ≤ 9)) && (decide (0 ≤ k) && decide (k ≤ 4)))) (hb : inB args = (k == 3)) : ∃ fb, ex ((con_law7_CheckMany args).bind (finP true)) false ⟨[], 0⟩ ⟨[], []⟩ = some (.bool true, ⟨[], 0⟩, fb) := by
  unfold con_law7_CheckMany pickS
  rw [ha, hb]
  cases h : ((decide (0 ≤ n) && decide (n ≤ 9)) && (decide (0 ≤ k) && decide (k ≤ 4)))
  · exact law_con (sh := ash_law7_CheckMany) (G := GF_law7_CheckMany) h1 h2 (many_out n k h)
  · rw [cond_true]
    cases h3 : (k == 3)
    · exact law_con (sh := ash_law7_CheckMany) (G := GR_law7_CheckMany) h1 h2 (many_in n k h h3)
    · exact law_con (sh := ash_law7_CheckMany) (G := GS_law7_CheckMany) h1 h2 (many_in3 n k h h3)
end Go.Proofs.YtmjbedjnojcmfaaDoor.Ex

namespace Go.Proofs.YtmjbedjnojcmfaaDoor.Ex
theorem str_of {s : ByteArray} (h : DOkS reachBytes .str s) : s.data.toList.length ≤ 9223372036854775807 := by
  have h : s.size ≤ maxLen := h
  unfold maxLen at h
  exact h
end Go.Proofs.YtmjbedjnojcmfaaDoor.Ex

