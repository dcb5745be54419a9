/- A part of the proofs of which programs may be: KH. -/
import Derived.Test.YtmjbedjnojcmfaaDoorKF
import Derived.Test.YtmjbedjnojcmfaaDoorKG
namespace Go.Proofs.YtmjbedjnojcmfaaDoor.Ex
open Go.Proofs Go.Proofs.YtmjbedjnojcmfaaDoor
set_option maxRecDepth 100000
set_option maxHeartbeats 2000000
set_option linter.unusedVariables false
set_option linter.unusedSimpArgs false
def ash_ref7_uses : List Sh := [.dat tPg, .dat tTh, .dat (.sl (.mu 2))]
def kp_ref7_uses_20_0 : Nat → List Nat := fun c => bif c.beq 0 then [2, 3, 4, 7] else [6]
class Rec_ref7_uses where
  K : (Pg × (Th × ((List (RT.C 2)) × Unit))) → Option Bool
  s : SoundA Tryd.prog 20 (conP true ash_ref7_uses (.dat .bool) K)
section
variable [Rec_ref7_uses]
noncomputable def sp_ref7_uses : List Con := [⟨47, con_ref7_Local, snd_ref7_Local⟩, ⟨48, con_ref7_Global, snd_ref7_Global⟩, ⟨49, con_ref7_usesExpr, snd_ref7_usesExpr⟩, ⟨50, con_ref7_Array, snd_ref7_Array⟩, ⟨51, con_ref7_Mutex, snd_ref7_Mutex⟩, ⟨52, con_ref7_usesCond, snd_ref7_usesCond⟩, ⟨20, (conP true ash_ref7_uses (.dat .bool) Rec_ref7_uses.K), Rec_ref7_uses.s⟩]
def s_ref7_uses_20_0_0 : StS := ⟨[(2, .sl (.mu 2)), (3, .ptr 0 0), (4, .ptr 1 0), (7, .int .i64)], [(0, .box [.sl tGb, .sl tGb, .sl .str, .sl tTh]), (1, .box [.str, .sl .str, .sl (.mu 2)])], 2⟩
def x_ref7_uses_20_0_0_0 : StS := ⟨[(6, .undef)], [], 0⟩
def x_ref7_uses_20_0_0_1 : StS := ⟨[(6, .bool)], [], 0⟩
abbrev X_ref7_uses_20_0_0 := ((List (RT.C 2)) × Int × (List Gb) × (List Gb) × (List ByteArray) × (List Th) × ByteArray × (List ByteArray) × (List (RT.C 2)))
def fl_ref7_uses_20_0_0 (d : StD s_ref7_uses_20_0_0) : X_ref7_uses_20_0_0 := (d.1.1, d.1.2.2.2.1, d.2.1.1, d.2.1.2.1, d.2.1.2.2.1, d.2.1.2.2.2.1, d.2.2.1.1, d.2.2.1.2.1, d.2.2.1.2.2.1)
def un_ref7_uses_20_0_0 (x : X_ref7_uses_20_0_0) : StD s_ref7_uses_20_0_0 := ((x.1, (), (), x.2.1, ()), ((x.2.2.1, x.2.2.2.1, x.2.2.2.2.1, x.2.2.2.2.2.1, ()), (x.2.2.2.2.2.2.1, x.2.2.2.2.2.2.2.1, x.2.2.2.2.2.2.2.2, ()), ()))
abbrev X_ref7_uses_20_0_0_0 := Unit
def fl_ref7_uses_20_0_0_0 (d : StD x_ref7_uses_20_0_0_0) : X_ref7_uses_20_0_0_0 := ()
def un_ref7_uses_20_0_0_0 (x : X_ref7_uses_20_0_0_0) : StD x_ref7_uses_20_0_0_0 := (((), ()), ())
abbrev X_ref7_uses_20_0_0_1 := Bool
def fl_ref7_uses_20_0_0_1 (d : StD x_ref7_uses_20_0_0_1) : X_ref7_uses_20_0_0_1 := (d.1.1)
def un_ref7_uses_20_0_0_1 (x : X_ref7_uses_20_0_0_1) : StD x_ref7_uses_20_0_0_1 := ((x, ()), ())
noncomputable def st_ref7_uses_20_0_0 (s2 : (List (RT.C 2))) (s7 : Int) (b0 : (List Gb)) (b0_1 : (List Gb)) (b0_2 : (List ByteArray)) (b0_3 : (List Th)) (b1 : ByteArray) (b1_1 : (List ByteArray)) (b1_2 : (List (RT.C 2))) : Option (((List (RT.C 2)) × Int × (List Gb) × (List Gb) × (List ByteArray) × (List Th) × ByteArray × (List ByteArray) × (List (RT.C 2))) ⊕ (Unit ⊕ Bool)) :=
  bif decide (s7 < (↑s2.length : Int)) then
 bif decide (0 ≤ s7) then
 optC s2[s7.toNat]? none fun d12 ↦
 bif (uT2 d12).1 == 1 then
 optC (G_ref7_Local ((b1, b1_1, b1_2), (uT2 d12).2.1, ())) none fun d13 ↦
 bif decide (d13 ≥ 0) then
 optC (G_ref7_usesExpr ((b0, b0_1, b0_2, b0_3), (b1, b1_1, b1_2), (uT2 d12).2.2.2.1, ())) none fun d14 ↦
 bif !d14 then some (Sum.inr (Sum.inr false)) else some (Sum.inl (s2, Go.IntKind.i64.wrap (s7 + 1), b0, b0_1, b0_2, b0_3, b1, b1_1, b1_2))
 else
 optC (G_ref7_Global ((b0, b0_1, b0_2, b0_3), (uT2 d12).2.1, ())) none fun d14 ↦
 bif decide (d14 ≥ 0) then
 optC (G_ref7_usesExpr ((b0, b0_1, b0_2, b0_3), (b1, b1_1, b1_2), (uT2 d12).2.2.2.1, ())) none fun d15 ↦
 bif !d15 then some (Sum.inr (Sum.inr false)) else some (Sum.inl (s2, Go.IntKind.i64.wrap (s7 + 1), b0, b0_1, b0_2, b0_3, b1, b1_1, b1_2))
 else some (Sum.inr (Sum.inr false))
 else
 bif (uT2 d12).1 == 2 then
 optC (G_ref7_Array ((b0, b0_1, b0_2, b0_3), (uT2 d12).2.1, ())) none fun d13 ↦
 bif decide (d13 ≥ 0) then
 optC (G_ref7_usesExpr ((b0, b0_1, b0_2, b0_3), (b1, b1_1, b1_2), (uT2 d12).2.2.1, ())) none fun d14 ↦
 bif d14 then
 optC (G_ref7_usesExpr ((b0, b0_1, b0_2, b0_3), (b1, b1_1, b1_2), (uT2 d12).2.2.2.1, ())) none fun d15 ↦
 bif !d15 then some (Sum.inr (Sum.inr false)) else some (Sum.inl (s2, Go.IntKind.i64.wrap (s7 + 1), b0, b0_1, b0_2, b0_3, b1, b1_1, b1_2))
 else some (Sum.inr (Sum.inr false))
 else some (Sum.inr (Sum.inr false))
 else
 bif (uT2 d12).1 == 3 then
 optC (G_ref7_Mutex ((b0, b0_1, b0_2, b0_3), (uT2 d12).2.1, ())) none fun d13 ↦
 bif !decide (d13 ≥ 0) then some (Sum.inr (Sum.inr false)) else some (Sum.inl (s2, Go.IntKind.i64.wrap (s7 + 1), b0, b0_1, b0_2, b0_3, b1, b1_1, b1_2))
 else
 bif (uT2 d12).1 == 4 then
 optC (G_ref7_Mutex ((b0, b0_1, b0_2, b0_3), (uT2 d12).2.1, ())) none fun d13 ↦
 bif !decide (d13 ≥ 0) then some (Sum.inr (Sum.inr false)) else some (Sum.inl (s2, Go.IntKind.i64.wrap (s7 + 1), b0, b0_1, b0_2, b0_3, b1, b1_1, b1_2))
 else
 bif (uT2 d12).1 == 5 then
 optC (G_ref7_usesCond ((b0, b0_1, b0_2, b0_3), (b1, b1_1, b1_2), (uT2 d12).2.2.2.2.1, ())) none fun d13 ↦
 bif d13 then
 optC (Rec_ref7_uses.K ((b0, b0_1, b0_2, b0_3), (b1, b1_1, b1_2), (uT2 d12).2.2.2.2.2.1, ())) none fun d14 ↦
 bif d14 then
 optC (Rec_ref7_uses.K ((b0, b0_1, b0_2, b0_3), (b1, b1_1, b1_2), (uT2 d12).2.2.2.2.2.2, ())) none fun d15 ↦
 bif !d15 then some (Sum.inr (Sum.inr false)) else some (Sum.inl (s2, Go.IntKind.i64.wrap (s7 + 1), b0, b0_1, b0_2, b0_3, b1, b1_1, b1_2))
 else some (Sum.inr (Sum.inr false))
 else some (Sum.inr (Sum.inr false))
 else
 bif (uT2 d12).1 == 6 then
 optC (G_ref7_usesCond ((b0, b0_1, b0_2, b0_3), (b1, b1_1, b1_2), (uT2 d12).2.2.2.2.1, ())) none fun d13 ↦
 bif d13 then
 optC (Rec_ref7_uses.K ((b0, b0_1, b0_2, b0_3), (b1, b1_1, b1_2), (uT2 d12).2.2.2.2.2.1, ())) none fun d14 ↦
 bif !d14 then some (Sum.inr (Sum.inr false)) else some (Sum.inl (s2, Go.IntKind.i64.wrap (s7 + 1), b0, b0_1, b0_2, b0_3, b1, b1_1, b1_2))
 else some (Sum.inr (Sum.inr false))
 else
 bif (uT2 d12).1 == 7 then
 optC (G_ref7_usesCond ((b0, b0_1, b0_2, b0_3), (b1, b1_1, b1_2), (uT2 d12).2.2.2.2.1, ())) none fun d13 ↦
 bif !d13 then some (Sum.inr (Sum.inr false)) else some (Sum.inl (s2, Go.IntKind.i64.wrap (s7 + 1), b0, b0_1, b0_2, b0_3, b1, b1_1, b1_2))
 else some (Sum.inl (s2, Go.IntKind.i64.wrap (s7 + 1), b0, b0_1, b0_2, b0_3, b1, b1_1, b1_2))
 else none
 else some (Sum.inr (Sum.inl PUnit.unit))
noncomputable def sx_ref7_uses_20_0_0 (x : X_ref7_uses_20_0_0) : Option (X_ref7_uses_20_0_0 ⊕ (X_ref7_uses_20_0_0_0 ⊕ X_ref7_uses_20_0_0_1)) := st_ref7_uses_20_0_0 x.1 x.2.1 x.2.2.1 x.2.2.2.1 x.2.2.2.2.1 x.2.2.2.2.2.1 x.2.2.2.2.2.2.1 x.2.2.2.2.2.2.2.1 x.2.2.2.2.2.2.2.2
theorem rn_ref7_uses_20_0_0 (x : X_ref7_uses_20_0_0) : rdX (cxU sp_ref7_uses [] 40 (1048576 ^ 9)) keeps 8 ⟨20, 116, keeps 20, 0⟩ 0 (bodyX 20 0) 0 kp_ref7_uses_20_0 (sT s_ref7_uses_20_0_0 (un_ref7_uses_20_0_0 x)) (sH s_ref7_uses_20_0_0 (un_ref7_uses_20_0_0 x)) (rdO (fun T h => (rdS s_ref7_uses_20_0_0 T h).map fl_ref7_uses_20_0_0) (getOr (getE 2 x_ref7_uses_20_0_0_0 fl_ref7_uses_20_0_0_0) (getE 1 x_ref7_uses_20_0_0_1 fl_ref7_uses_20_0_0_1))) = sx_ref7_uses_20_0_0 x := by kernel_rfl
noncomputable def L_ref7_uses_20_0_0 (x : X_ref7_uses_20_0_0) : Option (X_ref7_uses_20_0_0_0 ⊕ X_ref7_uses_20_0_0_1) := iterO (fun x => st_ref7_uses_20_0_0 x.1 x.2.1 x.2.2.1 x.2.2.2.1 x.2.2.2.2.1 x.2.2.2.2.2.1 x.2.2.2.2.2.2.1 x.2.2.2.2.2.2.2.1 x.2.2.2.2.2.2.2.2) FUEL x
noncomputable def q_ref7_uses_20_0 : Nat → Tm → Prog (Nat × Tm) := (varP 0 (fun T h => (rdS s_ref7_uses_20_0_0 T h).map fl_ref7_uses_20_0_0) L_ref7_uses_20_0_0 (fun y => .alt y (altE 2 x_ref7_uses_20_0_0_0 un_ref7_uses_20_0_0_0) (altE 1 x_ref7_uses_20_0_0_1 un_ref7_uses_20_0_0_1)) (fun _ _ => .fail))
noncomputable def lc_ref7_uses_20_0 : Lpc := ⟨20, 0, 116, (fun base T => .norm base (kp_ref7_uses_20_0 0) T (q_ref7_uses_20_0 base)), by kernel_rfl, by kernel_rfl, (loopU sp_ref7_uses [] 40 (1048576 ^ 9) 8 (keep := kp_ref7_uses_20_0) (q := q_ref7_uses_20_0) (by kernel_rfl) (varX_ok (s := s_ref7_uses_20_0_0) (un := un_ref7_uses_20_0_0) (by rfl) (fun _ => rfl) (getOr_ok (getE_ok (s := x_ref7_uses_20_0_0_0) (un := un_ref7_uses_20_0_0_0) (by rfl) (fun _ => rfl)) (getE_ok (s := x_ref7_uses_20_0_0_1) (un := un_ref7_uses_20_0_0_1) (by rfl) (fun _ => rfl))) (step := sx_ref7_uses_20_0_0) rn_ref7_uses_20_0_0 (fun _ _ e => ⟨_, e⟩) (altOr_ok (altE_ok 2 x_ref7_uses_20_0_0_0 un_ref7_uses_20_0_0_0) (altE_ok 1 x_ref7_uses_20_0_0_1 un_ref7_uses_20_0_0_1)) (VarOk.fail _ _)))⟩
noncomputable def g_ref7_uses (a0 : Pg) (a1 : Th) (a2 : (List (RT.C 2))) : Option Bool :=
  optC (L_ref7_uses_20_0_0 (a2, 0, a0.1, a0.2.1, a0.2.2.1, a0.2.2.2, a1)) none fun d6 ↦ Sum.elim (fun e7 ↦ some true) (fun e7 ↦ some e7) d6
theorem raw_ref7_uses (a0 : Pg) (a1 : Th) (a2 : (List (RT.C 2))) : evGX1 (cxU sp_ref7_uses [lc_ref7_uses_20_0] 40 (1048576 ^ 9)) keeps 8 20 ash_ref7_uses (.dat .bool) ((a0, a1, a2, ()) : (Pg × (Th × ((List (RT.C 2)) × Unit)))) = g_ref7_uses a0 a1 a2 := by kernel_rfl
noncomputable def GI_ref7_uses (x : (Pg × (Th × ((List (RT.C 2)) × Unit)))) : Option Bool := g_ref7_uses x.1 x.2.1 x.2.2.1
noncomputable def conI_ref7_uses : List AV → Prog AV := conP true ash_ref7_uses (.dat .bool) GI_ref7_uses
theorem sndI_ref7_uses : SoundA Tryd.prog 20 conI_ref7_uses := conP_sound (evF1_sound (tabOk_of tab_ok) (cmpsOk_of tab_ok cmps_ok) mixed (inU sp_ref7_uses [lc_ref7_uses_20_0] 40 (1048576 ^ 9)) (hspL sp_ref7_uses) keeps 8 20) true (by rfl) (by rfl) (fun x r e => (evGX1_eq _ _ _ _ _ _ _).trans ((raw_ref7_uses x.1 x.2.1 x.2.2.1).trans e)) (.inl rfl)
end
noncomputable def it_ref7_uses : Nat → {K : (Pg × (Th × ((List (RT.C 2)) × Unit))) → Option Bool // SoundA Tryd.prog 20 (conP true ash_ref7_uses (.dat .bool) K)}
  | 0 => ⟨fun _ => none, conP_none⟩
  | k + 1 => letI : Rec_ref7_uses := ⟨(it_ref7_uses k).1, (it_ref7_uses k).2⟩; ⟨GI_ref7_uses, sndI_ref7_uses⟩
noncomputable def G_ref7_uses (x : (Pg × (Th × ((List (RT.C 2)) × Unit)))) : Option Bool := (it_ref7_uses (@SizeOf.sizeOf ((Pg × (Th × ((List T2) × Unit)))) _ x + 1)).1 x
noncomputable def con_ref7_uses : List AV → Prog AV := conP true ash_ref7_uses (.dat .bool) G_ref7_uses
theorem snd_ref7_uses : SoundA Tryd.prog 20 con_ref7_uses := conP_pick (sh := ash_ref7_uses) (rs := .dat .bool) (n := fun x : (Pg × (Th × ((List (RT.C 2)) × Unit))) => @SizeOf.sizeOf (Pg × (Th × ((List T2) × Unit))) _ x + 1) (F := fun k => (it_ref7_uses k).1) (fun k => (it_ref7_uses k).2)
end Go.Proofs.YtmjbedjnojcmfaaDoor.Ex

namespace Go.Proofs.YtmjbedjnojcmfaaDoor.Ex
set_option maxRecDepth 100000
set_option maxHeartbeats 2000000
set_option linter.unusedVariables false
set_option linter.unusedSimpArgs false
set_option linter.unusedSectionVars false
variable [Rec_ref7_uses]
noncomputable def bd_ref7_uses_20_0_0 (b0 : (List Gb)) (b0_1 : (List Gb)) (b0_2 : (List ByteArray)) (b0_3 : (List Th)) (b1 : ByteArray) (b1_1 : (List ByteArray)) (b1_2 : (List (RT.C 2))) (s2 : (List (RT.C 2))) (i : Nat)  (d : (RT.C 2)) : Option (Unit ⊕ (X_ref7_uses_20_0_0_0 ⊕ X_ref7_uses_20_0_0_1)) :=
  bif (uT2 d).1 == 1 then
   optC (G_ref7_Local ((b1, b1_1, b1_2), (uT2 d).2.1, ())) (none) fun d13 ↦
   bif decide (d13 ≥ 0) then
   optC (G_ref7_usesExpr ((b0, b0_1, b0_2, b0_3), (b1, b1_1, b1_2), (uT2 d).2.2.2.1, ())) (none) fun d14 ↦
   bif !d14 then
   some (Sum.inr (Sum.inr false))
 else some (Sum.inl ())
 else optC (G_ref7_Global ((b0, b0_1, b0_2, b0_3), (uT2 d).2.1, ())) (none) fun d14 ↦
   bif decide (d14 ≥ 0) then
   optC (G_ref7_usesExpr ((b0, b0_1, b0_2, b0_3), (b1, b1_1, b1_2), (uT2 d).2.2.2.1, ())) (none) fun d15 ↦
   bif !d15 then
   some (Sum.inr (Sum.inr false))
 else some (Sum.inl ())
 else some (Sum.inr (Sum.inr false))
 else bif (uT2 d).1 == 2 then
   optC (G_ref7_Array ((b0, b0_1, b0_2, b0_3), (uT2 d).2.1, ())) (none) fun d13 ↦
   bif decide (d13 ≥ 0) then
   optC (G_ref7_usesExpr ((b0, b0_1, b0_2, b0_3), (b1, b1_1, b1_2), (uT2 d).2.2.1, ())) (none) fun d14 ↦
   bif d14 then
   optC (G_ref7_usesExpr ((b0, b0_1, b0_2, b0_3), (b1, b1_1, b1_2), (uT2 d).2.2.2.1, ())) (none) fun d15 ↦
   bif !d15 then
   some (Sum.inr (Sum.inr false))
 else some (Sum.inl ())
 else some (Sum.inr (Sum.inr false))
 else some (Sum.inr (Sum.inr false))
 else bif (uT2 d).1 == 3 then
   optC (G_ref7_Mutex ((b0, b0_1, b0_2, b0_3), (uT2 d).2.1, ())) (none) fun d13 ↦
   bif !decide (d13 ≥ 0) then
   some (Sum.inr (Sum.inr false))
 else some (Sum.inl ())
 else bif (uT2 d).1 == 4 then
   optC (G_ref7_Mutex ((b0, b0_1, b0_2, b0_3), (uT2 d).2.1, ())) (none) fun d13 ↦
   bif !decide (d13 ≥ 0) then
   some (Sum.inr (Sum.inr false))
 else some (Sum.inl ())
 else bif (uT2 d).1 == 5 then
   optC (G_ref7_usesCond ((b0, b0_1, b0_2, b0_3), (b1, b1_1, b1_2), (uT2 d).2.2.2.2.1, ())) (none) fun d13 ↦
   bif d13 then
   optC (Rec_ref7_uses.K ((b0, b0_1, b0_2, b0_3), (b1, b1_1, b1_2), (uT2 d).2.2.2.2.2.1, ())) (none) fun d14 ↦
   bif d14 then
   optC (Rec_ref7_uses.K ((b0, b0_1, b0_2, b0_3), (b1, b1_1, b1_2), (uT2 d).2.2.2.2.2.2, ())) (none) fun d15 ↦
   bif !d15 then
   some (Sum.inr (Sum.inr false))
 else some (Sum.inl ())
 else some (Sum.inr (Sum.inr false))
 else some (Sum.inr (Sum.inr false))
 else bif (uT2 d).1 == 6 then
   optC (G_ref7_usesCond ((b0, b0_1, b0_2, b0_3), (b1, b1_1, b1_2), (uT2 d).2.2.2.2.1, ())) (none) fun d13 ↦
   bif d13 then
   optC (Rec_ref7_uses.K ((b0, b0_1, b0_2, b0_3), (b1, b1_1, b1_2), (uT2 d).2.2.2.2.2.1, ())) (none) fun d14 ↦
   bif !d14 then
   some (Sum.inr (Sum.inr false))
 else some (Sum.inl ())
 else some (Sum.inr (Sum.inr false))
 else bif (uT2 d).1 == 7 then
   optC (G_ref7_usesCond ((b0, b0_1, b0_2, b0_3), (b1, b1_1, b1_2), (uT2 d).2.2.2.2.1, ())) (none) fun d13 ↦
   bif !d13 then
   some (Sum.inr (Sum.inr false))
 else some (Sum.inl ())
 else some (Sum.inl ())
noncomputable def fn_ref7_uses_20_0_0 (b0 : (List Gb)) (b0_1 : (List Gb)) (b0_2 : (List ByteArray)) (b0_3 : (List Th)) (b1 : ByteArray) (b1_1 : (List ByteArray)) (b1_2 : (List (RT.C 2))) (s2 : (List (RT.C 2)))  : Option (X_ref7_uses_20_0_0_0 ⊕ X_ref7_uses_20_0_0_1) :=
  some (Sum.inl PUnit.unit)
noncomputable abbrev rx_ref7_uses_20_0_0 (b0 : (List Gb)) (b0_1 : (List Gb)) (b0_2 : (List ByteArray)) (b0_3 : (List Th)) (b1 : ByteArray) (b1_1 : (List ByteArray)) (b1_2 : (List (RT.C 2))) (s2 : (List (RT.C 2))) (i : Nat) (s : Unit) : X_ref7_uses_20_0_0 := (s2, (i : Int), b0, b0_1, b0_2, b0_3, b1, b1_1, b1_2)
noncomputable def rv_ref7_uses_20_0_0 (b0 : (List Gb)) (b0_1 : (List Gb)) (b0_2 : (List ByteArray)) (b0_3 : (List Th)) (b1 : ByteArray) (b1_1 : (List ByteArray)) (b1_2 : (List (RT.C 2))) (s2 : (List (RT.C 2))) (s : Unit) : Option (X_ref7_uses_20_0_0_0 ⊕ X_ref7_uses_20_0_0_1) := rangeO (fun i s d => bd_ref7_uses_20_0_0 b0 b0_1 b0_2 b0_3 b1 b1_1 b1_2 s2 i  d) (fun s => fn_ref7_uses_20_0_0 b0 b0_1 b0_2 b0_3 b1 b1_1 b1_2 s2 ) 0 s2 s
theorem rg_ref7_uses_20_0_0 (b0 : (List Gb)) (b0_1 : (List Gb)) (b0_2 : (List ByteArray)) (b0_3 : (List Th)) (b1 : ByteArray) (b1_1 : (List ByteArray)) (b1_2 : (List (RT.C 2))) (s2 : (List (RT.C 2))) (s : Unit) (hl : s2.length < 9223372036854775807) : L_ref7_uses_20_0_0 (s2, 0, b0, b0_1, b0_2, b0_3, b1, b1_1, b1_2) = rv_ref7_uses_20_0_0 b0 b0_1 b0_2 b0_3 b1 b1_1 b1_2 s2 s := by
  unfold L_ref7_uses_20_0_0 rv_ref7_uses_20_0_0
  refine iterO_range0 s2 (rx_ref7_uses_20_0_0 b0 b0_1 b0_2 b0_3 b1 b1_1 b1_2 s2) _ _ ?_ ?_ s (by unfold FUEL; omega)
  · intro i s d hi hd
    have e1 : decide ((i : Int) < (s2.length : Int)) = true := decide_eq_true (by omega)
    have e2 : decide (0 ≤ (i : Int)) = true := decide_eq_true (by omega)
    have e3 : Int.toNat (i : Int) = i := Int.toNat_natCast i
    have e4 := wrap_next hi (Nat.le_of_lt hl)
    show st_ref7_uses_20_0_0 (s2) ((i : Int)) (b0) (b0_1) (b0_2) (b0_3) (b1) (b1_1) (b1_2) = upd _ (bd_ref7_uses_20_0_0 b0 b0_1 b0_2 b0_3 b1 b1_1 b1_2 s2 i  d)
    unfold st_ref7_uses_20_0_0 bd_ref7_uses_20_0_0
    simp only [e1, e2, e3, e4, hd, cond_true, cond_false, optC_some, upd_cond, upd_optC, upd_elim, upd_inl, upd_inr, upd_none]
  · intro s
    have e1 : decide ((s2.length : Int) < (s2.length : Int)) = false := decide_eq_false (by omega)
    show st_ref7_uses_20_0_0 (s2) ((s2.length : Int)) (b0) (b0_1) (b0_2) (b0_3) (b1) (b1_1) (b1_2) = _
    unfold st_ref7_uses_20_0_0 fn_ref7_uses_20_0_0
    rw [e1]
    rfl
end Go.Proofs.YtmjbedjnojcmfaaDoor.Ex

namespace Go.Proofs.YtmjbedjnojcmfaaDoor.Ex
set_option maxRecDepth 100000
set_option linter.unusedVariables false
set_option linter.unusedSimpArgs false
def smU (pg pa : List Gb) (pm tl : List ByteArray) : T2 → Bool
  | .mk (k, nm, i, e, c, body, els) => bif k == 1 then varU pg tl nm && exU pg pa tl (.mk e) else bif k == 2 then pa.any (eqG nm) && (exU pg pa tl (.mk i) && exU pg pa tl (.mk e)) else bif k == 3 then pm.any (eqS nm) else bif k == 4 then pm.any (eqS nm) else bif k == 5 then cdU pg pa tl (.mk c) && ((body.attach.all fun x => smU pg pa pm tl x.1) && (els.attach.all fun x => smU pg pa pm tl x.1)) else bif k == 6 then cdU pg pa tl (.mk c) && (body.attach.all fun x => smU pg pa pm tl x.1) else bif k == 7 then cdU pg pa tl (.mk c) else true
termination_by t => SizeOf.sizeOf t
decreasing_by
  all_goals
    have := List.sizeOf_lt_of_mem x.2
    simp only [T2.mk.sizeOf_spec, Prod.mk.sizeOf_spec]
    omega
theorem smU_eq (pg pa : List Gb) (pm tl : List ByteArray) (k : Int) (nm : ByteArray) (i e : Xp) (c : Cd) (body els : List T2) : smU pg pa pm tl (.mk (k, nm, i, e, c, body, els)) = (bif k == 1 then varU pg tl nm && exU pg pa tl (.mk e) else bif k == 2 then pa.any (eqG nm) && (exU pg pa tl (.mk i) && exU pg pa tl (.mk e)) else bif k == 3 then pm.any (eqS nm) else bif k == 4 then pm.any (eqS nm) else bif k == 5 then cdU pg pa tl (.mk c) && (body.all (smU pg pa pm tl) && els.all (smU pg pa pm tl)) else bif k == 6 then cdU pg pa tl (.mk c) && body.all (smU pg pa pm tl) else bif k == 7 then cdU pg pa tl (.mk c) else true) := by
  rw [smU, att_all body (smU pg pa pm tl), att_all els (smU pg pa pm tl)]
section
variable [Rec_check_scope_stmt]
theorem chk_ustmt {pg pa : List Gb} {pm : List ByteArray} {pt : List Th} {tn : ByteArray} {tl : List ByteArray} {tb : List T2} (S : okS pg pa pm tl) (k : Int) (nm : ByteArray) (i e : Xp) (c : Cd) (body els : List T2) (hi : ok0 (.mk i)) (he : ok0 (.mk e)) (hc : ok1 (.mk c)) (hb : body.length < 9223372036854775807) (hl : els.length < 9223372036854775807) (h : ∀ d ∈ body, Rec_check_scope_stmt.K (((pg, pa, pm, pt), tn, tl, tb), uT2 d, ()) = some (smU pg pa pm tl d)) (h' : ∀ d ∈ els, Rec_check_scope_stmt.K (((pg, pa, pm, pt), tn, tl, tb), uT2 d, ()) = some (smU pg pa pm tl d)) : g_check_scope_stmt ((pg, pa, pm, pt), tn, tl, tb) (k, nm, i, e, c, body, els) = some (smU pg pa pm tl (.mk (k, nm, i, e, c, body, els))) := by
  have xi := n_uexpr (pt := pt) (tn := tn) (tb := tb) S i hi
  have xe := n_uexpr (pt := pt) (tn := tn) (tb := tb) S e he
  have xc := n_ucond (pt := pt) (tn := tn) (tb := tb) S c hc
  rw [smU_eq]
  generalize exU pg pa tl (.mk i) = bi at *
  generalize exU pg pa tl (.mk e) = be at *
  generalize cdU pg pa tl (.mk c) = bc at *
  obtain ⟨i1, i2, i3, i4, i5⟩ := i
  obtain ⟨e1, e2, e3, e4, e5⟩ := e
  obtain ⟨c1, c2, c3, c4⟩ := c
  obtain ⟨j, q⟩ := rangeO_bad (f := fun i _ d => bd_check_scope_stmt_64_0_0 pg pa pm pt tn tl tb k nm i1 i2 i3 i4 i5 e1 e2 e3 e4 e5 c1 c2 c3 c4 body els pg pa pm pt tn tl tb body i d) (fin := fun _ => fn_check_scope_stmt_64_0_0 pg pa pm pt tn tl tb k nm i1 i2 i3 i4 i5 e1 e2 e3 e4 e5 c1 c2 c3 c4 body els pg pa pm pt tn tl tb body) (p := smU pg pa pm tl) (o := fun i => .inr ((i : Int), pg, pa, pm, pt, tn, tl, tb, k, nm, i1, i2, i3, i4, i5, e1, e2, e3, e4, e5, c1, c2, c3, c4, body, els, pg, pa, pm, pt, tn, tl, tb)) body 0 fun j d hd => by
    unfold bd_check_scope_stmt_64_0_0
    simp only [h d (List.mem_of_getElem? hd), optC_some]
    cases smU pg pa pm tl d <;> rfl
  have z0 : L_check_scope_stmt_64_0_0 (body, (body.length : Int), 0, pg, pa, pm, pt, tn, tl, tb, k, nm, i1, i2, i3, i4, i5, e1, e2, e3, e4, e5, c1, c2, c3, c4, body, els, pg, pa, pm, pt, tn, tl, tb) = bif body.all (smU pg pa pm tl) then some (.inl (pg, pa, pm, pt, tn, tl, tb, k, nm, i1, i2, i3, i4, i5, e1, e2, e3, e4, e5, c1, c2, c3, c4, body, els, pg, pa, pm, pt, tn, tl, tb)) else some (.inr ((j : Int), pg, pa, pm, pt, tn, tl, tb, k, nm, i1, i2, i3, i4, i5, e1, e2, e3, e4, e5, c1, c2, c3, c4, body, els, pg, pa, pm, pt, tn, tl, tb)) := (rg_check_scope_stmt_64_0_0 pg pa pm pt tn tl tb k nm i1 i2 i3 i4 i5 e1 e2 e3 e4 e5 c1 c2 c3 c4 body els pg pa pm pt tn tl tb body () hb).trans q
  obtain ⟨j', q'⟩ := rangeO_bad (f := fun i _ d => bd_check_scope_stmt_64_0_1 pg pa pm pt tn tl tb pg pa pm pt tn tl tb k nm i1 i2 i3 i4 i5 e1 e2 e3 e4 e5 c1 c2 c3 c4 body els pg pa pm pt tn tl tb els i d) (fin := fun _ => fn_check_scope_stmt_64_0_1 pg pa pm pt tn tl tb pg pa pm pt tn tl tb k nm i1 i2 i3 i4 i5 e1 e2 e3 e4 e5 c1 c2 c3 c4 body els pg pa pm pt tn tl tb els) (p := smU pg pa pm tl) (o := fun i => .inr ((i : Int), pg, pa, pm, pt, tn, tl, tb, pg, pa, pm, pt, tn, tl, tb, k, nm, i1, i2, i3, i4, i5, e1, e2, e3, e4, e5, c1, c2, c3, c4, body, els, pg, pa, pm, pt, tn, tl, tb)) els 0 fun j d hd => by
    unfold bd_check_scope_stmt_64_0_1
    simp only [h' d (List.mem_of_getElem? hd), optC_some]
    cases smU pg pa pm tl d <;> rfl
  have z1 : L_check_scope_stmt_64_0_1 (els, (els.length : Int), 0, pg, pa, pm, pt, tn, tl, tb, pg, pa, pm, pt, tn, tl, tb, k, nm, i1, i2, i3, i4, i5, e1, e2, e3, e4, e5, c1, c2, c3, c4, body, els, pg, pa, pm, pt, tn, tl, tb) = bif els.all (smU pg pa pm tl) then some (.inl (pg, pa, pm, pt, tn, tl, tb, pg, pa, pm, pt, tn, tl, tb, k, nm, i1, i2, i3, i4, i5, e1, e2, e3, e4, e5, c1, c2, c3, c4, body, els, pg, pa, pm, pt, tn, tl, tb)) else some (.inr ((j' : Int), pg, pa, pm, pt, tn, tl, tb, pg, pa, pm, pt, tn, tl, tb, k, nm, i1, i2, i3, i4, i5, e1, e2, e3, e4, e5, c1, c2, c3, c4, body, els, pg, pa, pm, pt, tn, tl, tb)) := (rg_check_scope_stmt_64_0_1 pg pa pm pt tn tl tb pg pa pm pt tn tl tb k nm i1 i2 i3 i4 i5 e1 e2 e3 e4 e5 c1 c2 c3 c4 body els pg pa pm pt tn tl tb els () hl).trans q'
  have dj : decide ((j : Int) ≥ 0) = true := decide_eq_true (by omega)
  have dj' : decide ((j' : Int) ≥ 0) = true := decide_eq_true (by omega)
  have dm : decide ((-1 : Int) ≥ 0) = false := by decide
  unfold g_check_scope_stmt
  simp only [G_check_scope_isVar, n_isVar S nm, G_check_Array, n_Array (pg, pa, pm, pt) nm S.a, G_check_Mutex, n_Mutex (pg, pa, pm, pt) nm S.m, optC_some, posV_has, xi, xe, xc, z0]
  cases body.all (smU pg pa pm tl)
  · simp only [cond_false, optC_some, Sum.elim_inr, dj, Bool.not_true, cA, Bool.false_and, Bool.and_false]
    cases k == 1 <;> cases k == 2 <;> cases k == 3 <;> cases k == 4 <;> cases k == 5 <;> cases k == 6 <;> cases k == 7 <;> rfl
  · simp only [cond_true, optC_some, Sum.elim_inl, z1]
    cases els.all (smU pg pa pm tl)
    · simp only [cond_false, optC_some, Sum.elim_inr, dj', dm, Bool.not_true, Bool.not_false, cA, Bool.false_and, Bool.and_false, Bool.true_and, Bool.and_true]
      cases k == 1 <;> cases k == 2 <;> cases k == 3 <;> cases k == 4 <;> cases k == 5 <;> cases k == 6 <;> cases k == 7 <;> rfl
    · simp only [cond_true, optC_some, Sum.elim_inl, dm, Bool.not_false, cA, Bool.true_and, Bool.and_true]
      cases k == 1 <;> cases k == 2 <;> cases k == 3 <;> cases k == 4 <;> cases k == 5 <;> cases k == 6 <;> cases k == 7 <;> rfl
end
theorem it_ustmt {pg pa : List Gb} {pm : List ByteArray} {pt : List Th} {tn : ByteArray} {tl : List ByteArray} {tb : List T2} (S : okS pg pa pm tl) (t : T2) (ht : ok2 t) : ∀ k, SizeOf.sizeOf t ≤ k → (it_check_scope_stmt k).1 (((pg, pa, pm, pt), tn, tl, tb), uT2 t, ()) = some (smU pg pa pm tl t) := by
  induction ht with
  | @mk c nm i e cd body els hn hi he hc hb hl h h' ih ih' =>
    intro k hk
    rw [T2.mk.sizeOf_spec] at hk
    obtain ⟨k, rfl⟩ : ∃ m, k = m + 1 := ⟨k - 1, by omega⟩
    letI : Rec_check_scope_stmt := ⟨(it_check_scope_stmt k).1, (it_check_scope_stmt k).2⟩
    simp only [Prod.mk.sizeOf_spec] at hk
    refine chk_ustmt S c nm i e cd body els hi he hc hb hl (fun d hd => ih d hd k ?_) fun d hd => ih' d hd k ?_
    · have := List.sizeOf_lt_of_mem hd; omega
    · have := List.sizeOf_lt_of_mem hd; omega
theorem n_ustmt {pg pa : List Gb} {pm : List ByteArray} {pt : List Th} {tn : ByteArray} {tl : List ByteArray} {tb : List T2} (S : okS pg pa pm tl) (d : T2) (ht : ok2 d) : G_check_scope_stmt (((pg, pa, pm, pt), tn, tl, tb), uT2 d, ()) = some (smU pg pa pm tl d) := by
  cases d with
  | mk e => exact it_ustmt S (.mk e) ht _ (by rw [T2.mk.sizeOf_spec]; show 1 + SizeOf.sizeOf e ≤ (1 + _ + (1 + SizeOf.sizeOf e + SizeOf.sizeOf ())) + 1; omega)
section
variable [Rec_ref7_uses]
theorem ref_uses {pg pa : List Gb} {pm : List ByteArray} {pt : List Th} {tn : ByteArray} {tl : List ByteArray} {tb : List T2} (S : okS pg pa pm tl) (l : List T2) (hl : l.length < 9223372036854775807) (ok : ∀ d ∈ l, ok2 d) (h : ∀ d ∈ l, ∀ k nm i e c body els, d = .mk (k, nm, i, e, c, body, els) → Rec_ref7_uses.K ((pg, pa, pm, pt), (tn, tl, tb), body, ()) = some (body.all (smU pg pa pm tl)) ∧ Rec_ref7_uses.K ((pg, pa, pm, pt), (tn, tl, tb), els, ()) = some (els.all (smU pg pa pm tl))) : g_ref7_uses (pg, pa, pm, pt) (tn, tl, tb) l = some (l.all (smU pg pa pm tl)) := by
  obtain ⟨j, q⟩ := rangeO_bad (f := fun i _ d => bd_ref7_uses_20_0_0 pg pa pm pt tn tl tb l i d) (fin := fun _ => fn_ref7_uses_20_0_0 pg pa pm pt tn tl tb l) (p := smU pg pa pm tl) (o := fun i => .inr false) l 0 fun j d hd => by
    have hm := List.mem_of_getElem? hd
    have ho := ok d hm
    have hh := h d hm
    cases ho with
    | @mk k nm i e c body els hn hi he hc hb hl' hx hx' =>
      obtain ⟨k1, k2⟩ := hh k nm i e c body els rfl
      unfold bd_ref7_uses_20_0_0
      rw [show uT2 (T2.mk (k, nm, i, e, c, body, els)) = (k, nm, i, e, c, body, els) from rfl]
      simp only [G_ref7_Local, n_ref7_Local (tn, tl, tb) nm S.l, G_ref7_Global, n_ref7_Global (pg, pa, pm, pt) nm S.g, G_ref7_Array, n_ref7_Array (pg, pa, pm, pt) nm S.a, G_ref7_Mutex, n_ref7_Mutex (pg, pa, pm, pt) nm S.m, posV_has, n_ref_uexpr (pt := pt) (tn := tn) (tb := tb) S i hi, n_ref_uexpr (pt := pt) (tn := tn) (tb := tb) S e he, n_ref_ucond (pt := pt) (tn := tn) (tb := tb) S c hc, k1, k2, optC_some, smU_eq]
      unfold varU
      cases k == 1
      · cases k == 2
        · cases k == 3
          · cases k == 4
            · cases k == 5
              · cases k == 6
                · cases k == 7
                  · rfl
                  · cases cdU pg pa tl (.mk c) <;> rfl
                · cases cdU pg pa tl (.mk c) <;> cases body.all (smU pg pa pm tl) <;> rfl
              · cases cdU pg pa tl (.mk c) <;> cases body.all (smU pg pa pm tl) <;> cases els.all (smU pg pa pm tl) <;> rfl
            · cases pm.any (eqS nm) <;> rfl
          · cases pm.any (eqS nm) <;> rfl
        · cases pa.any (eqG nm) <;> cases exU pg pa tl (.mk i) <;> cases exU pg pa tl (.mk e) <;> rfl
      · cases tl.any (eqS nm) <;> cases pg.any (eqG nm) <;> cases exU pg pa tl (.mk e) <;> rfl
  have z : L_ref7_uses_20_0_0 (l, 0, pg, pa, pm, pt, tn, tl, tb) = _ := (rg_ref7_uses_20_0_0 pg pa pm pt tn tl tb l () hl).trans q
  unfold g_ref7_uses
  simp only [z]
  cases l.all (smU pg pa pm tl) <;> rfl
end
theorem it_ref_uses {pg pa : List Gb} {pm : List ByteArray} {pt : List Th} {tn : ByteArray} {tl : List ByteArray} {tb : List T2} (S : okS pg pa pm tl) : ∀ (k : Nat) (l : List T2), l.length < 9223372036854775807 → (∀ d ∈ l, ok2 d) → SizeOf.sizeOf l ≤ k → (it_ref7_uses k).1 ((pg, pa, pm, pt), (tn, tl, tb), l, ()) = some (l.all (smU pg pa pm tl))
  | 0, l, _, _, h => by cases l <;> simp at h
  | k + 1, l, hl, ok, h => by
    letI : Rec_ref7_uses := ⟨(it_ref7_uses k).1, (it_ref7_uses k).2⟩
    refine ref_uses S l hl ok fun d hd c nm i e cd body els hde => ?_
    subst hde
    have := List.sizeOf_lt_of_mem hd
    simp only [T2.mk.sizeOf_spec, Prod.mk.sizeOf_spec] at this
    cases ok _ hd with
    | mk hn hi he hc hb hl' hx hx' => exact ⟨it_ref_uses S k body hb hx (by omega), it_ref_uses S k els hl' hx' (by omega)⟩
theorem n_ref_uses {pg pa : List Gb} {pm : List ByteArray} {pt : List Th} {tn : ByteArray} {tl : List ByteArray} {tb : List T2} (S : okS pg pa pm tl) (l : List T2) (hl : l.length < 9223372036854775807) (ok : ∀ d ∈ l, ok2 d) : G_ref7_uses ((pg, pa, pm, pt), (tn, tl, tb), l, ()) = some (l.all (smU pg pa pm tl)) :=
  it_ref_uses S _ l hl ok (by show SizeOf.sizeOf l ≤ (1 + _ + (1 + _ + (1 + SizeOf.sizeOf l + SizeOf.sizeOf ()))) + 1; omega)
end Go.Proofs.YtmjbedjnojcmfaaDoor.Ex

namespace Go.Proofs.YtmjbedjnojcmfaaDoor.Ex
open Go.Proofs Go.Proofs.YtmjbedjnojcmfaaDoor
set_option maxRecDepth 100000
set_option maxHeartbeats 2000000
set_option linter.unusedVariables false
set_option linter.unusedSimpArgs false
def ash_check_isForm : List Sh := [.dat tPg]
def kp_check_isForm_76_0 : Nat → List Nat := fun c => bif c.beq 0 then [0, 1, 7, 8] else [4]
def kp_check_isForm_68_0 : Nat → List Nat := fun c => bif c.beq 0 then [0, 1, 7, 8] else [4]
def kp_check_isForm_64_0 : Nat → List Nat := fun c => bif c.beq 0 then [0, 1, 7, 8] else [4]
def kp_check_isForm_63_0 : Nat → List Nat := fun c => bif c.beq 0 then [0, 1, 7, 8] else [4]
noncomputable def sp_check_isForm : List Con := [⟨22, con_check_areNames, snd_check_areNames⟩, ⟨25, con_check_isName, snd_check_isName⟩, ⟨31, con_check_isStmt, snd_check_isStmt⟩, ⟨29, con_check_isIn, snd_check_isIn⟩, ⟨26, con_num_Fits, snd_num_Fits⟩]
def s_check_isForm_76_0_0 : StS := ⟨[(0, .sl tGb), (1, .clo 56 [] [.ptr 1 0]), (7, .int .i64), (8, .int .i64)], [(1, .box [.clo 24 [] []]), (0, .box [.sl tGb, .sl tGb, .sl .str, .sl tTh])], 2⟩
def x_check_isForm_76_0_0_0 : StS := ⟨[(4, .undef)], [(1, .box [.clo 24 [] []]), (0, .box [.sl tGb, .sl tGb, .sl .str, .sl tTh])], 2⟩
def x_check_isForm_76_0_0_1 : StS := ⟨[(4, .int .i64)], [(1, .box [.clo 24 [] []]), (0, .box [.sl tGb, .sl tGb, .sl .str, .sl tTh])], 2⟩
abbrev X_check_isForm_76_0_0 := ((List Gb) × Int × Int × (List Gb) × (List Gb) × (List ByteArray) × (List Th))
def fl_check_isForm_76_0_0 (d : StD s_check_isForm_76_0_0) : X_check_isForm_76_0_0 := (d.1.1, d.1.2.2.1, d.1.2.2.2.1, d.2.2.1.1, d.2.2.1.2.1, d.2.2.1.2.2.1, d.2.2.1.2.2.2.1)
def un_check_isForm_76_0_0 (x : X_check_isForm_76_0_0) : StD s_check_isForm_76_0_0 := ((x.1, ((), ((), ())), x.2.1, x.2.2.1, ()), ((((), ()), ()), (x.2.2.2.1, x.2.2.2.2.1, x.2.2.2.2.2.1, x.2.2.2.2.2.2, ()), ()))
abbrev X_check_isForm_76_0_0_0 := ((List Gb) × (List Gb) × (List ByteArray) × (List Th))
def fl_check_isForm_76_0_0_0 (d : StD x_check_isForm_76_0_0_0) : X_check_isForm_76_0_0_0 := (d.2.2.1.1, d.2.2.1.2.1, d.2.2.1.2.2.1, d.2.2.1.2.2.2.1)
def un_check_isForm_76_0_0_0 (x : X_check_isForm_76_0_0_0) : StD x_check_isForm_76_0_0_0 := (((), ()), ((((), ()), ()), (x.1, x.2.1, x.2.2.1, x.2.2.2, ()), ()))
abbrev X_check_isForm_76_0_0_1 := (Int × (List Gb) × (List Gb) × (List ByteArray) × (List Th))
def fl_check_isForm_76_0_0_1 (d : StD x_check_isForm_76_0_0_1) : X_check_isForm_76_0_0_1 := (d.1.1, d.2.2.1.1, d.2.2.1.2.1, d.2.2.1.2.2.1, d.2.2.1.2.2.2.1)
def un_check_isForm_76_0_0_1 (x : X_check_isForm_76_0_0_1) : StD x_check_isForm_76_0_0_1 := ((x.1, ()), ((((), ()), ()), (x.2.1, x.2.2.1, x.2.2.2.1, x.2.2.2.2, ()), ()))
noncomputable def st_check_isForm_76_0_0 (s0 : (List Gb)) (s7 : Int) (s8 : Int) (b0 : (List Gb)) (b0_1 : (List Gb)) (b0_2 : (List ByteArray)) (b0_3 : (List Th)) : Option (((List Gb) × Int × Int × (List Gb) × (List Gb) × (List ByteArray) × (List Th)) ⊕ (((List Gb) × (List Gb) × (List ByteArray) × (List Th)) ⊕ (Int × (List Gb) × (List Gb) × (List ByteArray) × (List Th)))) :=
  bif decide (s8 < s7) then
 bif decide (0 ≤ s8) then
 optC s0[s8.toNat]? none fun d12 ↦
 optC (G_check_isName (d12.1, ())) none fun d13 ↦
 bif d13 then
 optC (G_num_Fits ([d12.2], ())) none fun d14 ↦
 bif !d14 then some (Sum.inr (Sum.inr (s8, b0, b0_1, b0_2, b0_3))) else some (Sum.inl (s0, s7, Go.IntKind.i64.wrap (s8 + 1), b0, b0_1, b0_2, b0_3))
 else some (Sum.inr (Sum.inr (s8, b0, b0_1, b0_2, b0_3)))
 else none
 else some (Sum.inr (Sum.inl (b0, b0_1, b0_2, b0_3)))
noncomputable def sx_check_isForm_76_0_0 (x : X_check_isForm_76_0_0) : Option (X_check_isForm_76_0_0 ⊕ (X_check_isForm_76_0_0_0 ⊕ X_check_isForm_76_0_0_1)) := st_check_isForm_76_0_0 x.1 x.2.1 x.2.2.1 x.2.2.2.1 x.2.2.2.2.1 x.2.2.2.2.2.1 x.2.2.2.2.2.2
theorem rn_check_isForm_76_0_0 (x : X_check_isForm_76_0_0) : rdX (cxU sp_check_isForm [] 40 1048576) keeps 8 ⟨76, 19, keeps 76, 2⟩ 0 (bodyX 76 0) 2 kp_check_isForm_76_0 (sT s_check_isForm_76_0_0 (un_check_isForm_76_0_0 x)) (sH s_check_isForm_76_0_0 (un_check_isForm_76_0_0 x)) (rdO (fun T h => (rdS s_check_isForm_76_0_0 T h).map fl_check_isForm_76_0_0) (getOr (getE 2 x_check_isForm_76_0_0_0 fl_check_isForm_76_0_0_0) (getE 1 x_check_isForm_76_0_0_1 fl_check_isForm_76_0_0_1))) = sx_check_isForm_76_0_0 x := by kernel_rfl
noncomputable def L_check_isForm_76_0_0 (x : X_check_isForm_76_0_0) : Option (X_check_isForm_76_0_0_0 ⊕ X_check_isForm_76_0_0_1) := iterO (fun x => st_check_isForm_76_0_0 x.1 x.2.1 x.2.2.1 x.2.2.2.1 x.2.2.2.2.1 x.2.2.2.2.2.1 x.2.2.2.2.2.2) FUEL x
noncomputable def q_check_isForm_76_0 : Nat → Tm → Prog (Nat × Tm) := (varP 2 (fun T h => (rdS s_check_isForm_76_0_0 T h).map fl_check_isForm_76_0_0) L_check_isForm_76_0_0 (fun y => .alt y (altE 2 x_check_isForm_76_0_0_0 un_check_isForm_76_0_0_0) (altE 1 x_check_isForm_76_0_0_1 un_check_isForm_76_0_0_1)) (fun _ _ => .fail))
noncomputable def lc_check_isForm_76_0 : Lpc := ⟨76, 0, 19, (fun base T => .norm base (kp_check_isForm_76_0 0) T (q_check_isForm_76_0 base)), by kernel_rfl, by kernel_rfl, (loopU sp_check_isForm [] 40 1048576 8 (keep := kp_check_isForm_76_0) (q := q_check_isForm_76_0) (by kernel_rfl) (varX_ok (s := s_check_isForm_76_0_0) (un := un_check_isForm_76_0_0) (by rfl) (fun _ => rfl) (getOr_ok (getE_ok (s := x_check_isForm_76_0_0_0) (un := un_check_isForm_76_0_0_0) (by rfl) (fun _ => rfl)) (getE_ok (s := x_check_isForm_76_0_0_1) (un := un_check_isForm_76_0_0_1) (by rfl) (fun _ => rfl))) (step := sx_check_isForm_76_0_0) rn_check_isForm_76_0_0 (fun _ _ e => ⟨_, e⟩) (altOr_ok (altE_ok 2 x_check_isForm_76_0_0_0 un_check_isForm_76_0_0_0) (altE_ok 1 x_check_isForm_76_0_0_1 un_check_isForm_76_0_0_1)) (VarOk.fail _ _)))⟩
noncomputable abbrev cx_check_isForm_68_0 := cxU sp_check_isForm [lc_check_isForm_76_0] 40 1048576
def s_check_isForm_68_0_0 : StS := ⟨[(0, .sl tGb), (1, .clo 60 [] [.ptr 2 0]), (7, .int .i64), (8, .int .i64)], [(2, .box [.clo 28 [] []]), (1, .box [.clo 24 [] []]), (0, .box [.sl tGb, .sl tGb, .sl .str, .sl tTh])], 3⟩
def x_check_isForm_68_0_0_0 : StS := ⟨[(4, .undef)], [(2, .box [.clo 28 [] []]), (1, .box [.clo 24 [] []]), (0, .box [.sl tGb, .sl tGb, .sl .str, .sl tTh])], 3⟩
def x_check_isForm_68_0_0_1 : StS := ⟨[(4, .int .i64)], [(2, .box [.clo 28 [] []]), (1, .box [.clo 24 [] []]), (0, .box [.sl tGb, .sl tGb, .sl .str, .sl tTh])], 3⟩
abbrev X_check_isForm_68_0_0 := ((List Gb) × Int × Int × (List Gb) × (List Gb) × (List ByteArray) × (List Th))
def fl_check_isForm_68_0_0 (d : StD s_check_isForm_68_0_0) : X_check_isForm_68_0_0 := (d.1.1, d.1.2.2.1, d.1.2.2.2.1, d.2.2.2.1.1, d.2.2.2.1.2.1, d.2.2.2.1.2.2.1, d.2.2.2.1.2.2.2.1)
def un_check_isForm_68_0_0 (x : X_check_isForm_68_0_0) : StD s_check_isForm_68_0_0 := ((x.1, ((), ((), ())), x.2.1, x.2.2.1, ()), ((((), ()), ()), (((), ()), ()), (x.2.2.2.1, x.2.2.2.2.1, x.2.2.2.2.2.1, x.2.2.2.2.2.2, ()), ()))
abbrev X_check_isForm_68_0_0_0 := ((List Gb) × (List Gb) × (List ByteArray) × (List Th))
def fl_check_isForm_68_0_0_0 (d : StD x_check_isForm_68_0_0_0) : X_check_isForm_68_0_0_0 := (d.2.2.2.1.1, d.2.2.2.1.2.1, d.2.2.2.1.2.2.1, d.2.2.2.1.2.2.2.1)
def un_check_isForm_68_0_0_0 (x : X_check_isForm_68_0_0_0) : StD x_check_isForm_68_0_0_0 := (((), ()), ((((), ()), ()), (((), ()), ()), (x.1, x.2.1, x.2.2.1, x.2.2.2, ()), ()))
abbrev X_check_isForm_68_0_0_1 := (Int × (List Gb) × (List Gb) × (List ByteArray) × (List Th))
def fl_check_isForm_68_0_0_1 (d : StD x_check_isForm_68_0_0_1) : X_check_isForm_68_0_0_1 := (d.1.1, d.2.2.2.1.1, d.2.2.2.1.2.1, d.2.2.2.1.2.2.1, d.2.2.2.1.2.2.2.1)
def un_check_isForm_68_0_0_1 (x : X_check_isForm_68_0_0_1) : StD x_check_isForm_68_0_0_1 := ((x.1, ()), ((((), ()), ()), (((), ()), ()), (x.2.1, x.2.2.1, x.2.2.2.1, x.2.2.2.2, ()), ()))
noncomputable def st_check_isForm_68_0_0 (s0 : (List Gb)) (s7 : Int) (s8 : Int) (b0 : (List Gb)) (b0_1 : (List Gb)) (b0_2 : (List ByteArray)) (b0_3 : (List Th)) : Option (((List Gb) × Int × Int × (List Gb) × (List Gb) × (List ByteArray) × (List Th)) ⊕ (((List Gb) × (List Gb) × (List ByteArray) × (List Th)) ⊕ (Int × (List Gb) × (List Gb) × (List ByteArray) × (List Th)))) :=
  bif decide (s8 < s7) then
 bif decide (0 ≤ s8) then
 optC s0[s8.toNat]? none fun d12 ↦
 optC (G_check_isName (d12.1, ())) none fun d13 ↦
 bif d13 then
 optC (G_check_isIn (d12.2, 1, 16, ())) none fun d14 ↦
 bif !d14 then some (Sum.inr (Sum.inr (s8, b0, b0_1, b0_2, b0_3))) else some (Sum.inl (s0, s7, Go.IntKind.i64.wrap (s8 + 1), b0, b0_1, b0_2, b0_3))
 else some (Sum.inr (Sum.inr (s8, b0, b0_1, b0_2, b0_3)))
 else none
 else some (Sum.inr (Sum.inl (b0, b0_1, b0_2, b0_3)))
noncomputable def sx_check_isForm_68_0_0 (x : X_check_isForm_68_0_0) : Option (X_check_isForm_68_0_0 ⊕ (X_check_isForm_68_0_0_0 ⊕ X_check_isForm_68_0_0_1)) := st_check_isForm_68_0_0 x.1 x.2.1 x.2.2.1 x.2.2.2.1 x.2.2.2.2.1 x.2.2.2.2.2.1 x.2.2.2.2.2.2
theorem rn_check_isForm_68_0_0 (x : X_check_isForm_68_0_0) : rdX cx_check_isForm_68_0 keeps 8 ⟨68, 19, keeps 68, 3⟩ 0 (bodyX 68 0) 3 kp_check_isForm_68_0 (sT s_check_isForm_68_0_0 (un_check_isForm_68_0_0 x)) (sH s_check_isForm_68_0_0 (un_check_isForm_68_0_0 x)) (rdO (fun T h => (rdS s_check_isForm_68_0_0 T h).map fl_check_isForm_68_0_0) (getOr (getE 2 x_check_isForm_68_0_0_0 fl_check_isForm_68_0_0_0) (getE 1 x_check_isForm_68_0_0_1 fl_check_isForm_68_0_0_1))) = sx_check_isForm_68_0_0 x := by kernel_rfl
noncomputable def L_check_isForm_68_0_0 (x : X_check_isForm_68_0_0) : Option (X_check_isForm_68_0_0_0 ⊕ X_check_isForm_68_0_0_1) := iterO (fun x => st_check_isForm_68_0_0 x.1 x.2.1 x.2.2.1 x.2.2.2.1 x.2.2.2.2.1 x.2.2.2.2.2.1 x.2.2.2.2.2.2) FUEL x
noncomputable def q_check_isForm_68_0 : Nat → Tm → Prog (Nat × Tm) := (varP 3 (fun T h => (rdS s_check_isForm_68_0_0 T h).map fl_check_isForm_68_0_0) L_check_isForm_68_0_0 (fun y => .alt y (altE 2 x_check_isForm_68_0_0_0 un_check_isForm_68_0_0_0) (altE 1 x_check_isForm_68_0_0_1 un_check_isForm_68_0_0_1)) (fun _ _ => .fail))
noncomputable def lc_check_isForm_68_0 : Lpc := ⟨68, 0, 19, (fun base T => .norm base (kp_check_isForm_68_0 0) T (q_check_isForm_68_0 base)), by kernel_rfl, by kernel_rfl, (loopU sp_check_isForm [lc_check_isForm_76_0] 40 1048576 8 (keep := kp_check_isForm_68_0) (q := q_check_isForm_68_0) (by kernel_rfl) (varX_ok (s := s_check_isForm_68_0_0) (un := un_check_isForm_68_0_0) (by rfl) (fun _ => rfl) (getOr_ok (getE_ok (s := x_check_isForm_68_0_0_0) (un := un_check_isForm_68_0_0_0) (by rfl) (fun _ => rfl)) (getE_ok (s := x_check_isForm_68_0_0_1) (un := un_check_isForm_68_0_0_1) (by rfl) (fun _ => rfl))) (step := sx_check_isForm_68_0_0) rn_check_isForm_68_0_0 (fun _ _ e => ⟨_, e⟩) (altOr_ok (altE_ok 2 x_check_isForm_68_0_0_0 un_check_isForm_68_0_0_0) (altE_ok 1 x_check_isForm_68_0_0_1 un_check_isForm_68_0_0_1)) (VarOk.fail _ _)))⟩
noncomputable abbrev cx_check_isForm_64_0 := cxU sp_check_isForm [lc_check_isForm_76_0, lc_check_isForm_68_0] 40 1048576
def s_check_isForm_64_0_0 : StS := ⟨[(0, .sl (.mu 2)), (1, .clo 37 [] [.ptr 6 0]), (7, .int .i64), (8, .int .i64)], [(6, .box [.clo 31 [] []]), (5, .box [.str, .sl .str, .sl (.mu 2)]), (4, .box [.str, .sl .str, .sl (.mu 2)]), (3, .box [.clo 30 [] []]), (2, .box [.clo 28 [] []]), (1, .box [.clo 24 [] []]), (0, .box [.sl tGb, .sl tGb, .sl .str, .sl tTh])], 7⟩
def x_check_isForm_64_0_0_0 : StS := ⟨[(4, .undef)], [(6, .box [.clo 31 [] []]), (5, .box [.str, .sl .str, .sl (.mu 2)]), (4, .box [.str, .sl .str, .sl (.mu 2)]), (3, .box [.clo 30 [] []]), (2, .box [.clo 28 [] []]), (1, .box [.clo 24 [] []]), (0, .box [.sl tGb, .sl tGb, .sl .str, .sl tTh])], 7⟩
def x_check_isForm_64_0_0_1 : StS := ⟨[(4, .int .i64)], [(6, .box [.clo 31 [] []]), (5, .box [.str, .sl .str, .sl (.mu 2)]), (4, .box [.str, .sl .str, .sl (.mu 2)]), (3, .box [.clo 30 [] []]), (2, .box [.clo 28 [] []]), (1, .box [.clo 24 [] []]), (0, .box [.sl tGb, .sl tGb, .sl .str, .sl tTh])], 7⟩
abbrev X_check_isForm_64_0_0 := ((List (RT.C 2)) × Int × Int × ByteArray × (List ByteArray) × (List (RT.C 2)) × ByteArray × (List ByteArray) × (List (RT.C 2)) × (List Gb) × (List Gb) × (List ByteArray) × (List Th))
def fl_check_isForm_64_0_0 (d : StD s_check_isForm_64_0_0) : X_check_isForm_64_0_0 := (d.1.1, d.1.2.2.1, d.1.2.2.2.1, d.2.2.1.1, d.2.2.1.2.1, d.2.2.1.2.2.1, d.2.2.2.1.1, d.2.2.2.1.2.1, d.2.2.2.1.2.2.1, d.2.2.2.2.2.2.2.1.1, d.2.2.2.2.2.2.2.1.2.1, d.2.2.2.2.2.2.2.1.2.2.1, d.2.2.2.2.2.2.2.1.2.2.2.1)
def un_check_isForm_64_0_0 (x : X_check_isForm_64_0_0) : StD s_check_isForm_64_0_0 := ((x.1, ((), ((), ())), x.2.1, x.2.2.1, ()), ((((), ()), ()), (x.2.2.2.1, x.2.2.2.2.1, x.2.2.2.2.2.1, ()), (x.2.2.2.2.2.2.1, x.2.2.2.2.2.2.2.1, x.2.2.2.2.2.2.2.2.1, ()), (((), ()), ()), (((), ()), ()), (((), ()), ()), (x.2.2.2.2.2.2.2.2.2.1, x.2.2.2.2.2.2.2.2.2.2.1, x.2.2.2.2.2.2.2.2.2.2.2.1, x.2.2.2.2.2.2.2.2.2.2.2.2, ()), ()))
abbrev X_check_isForm_64_0_0_0 := (ByteArray × (List ByteArray) × (List (RT.C 2)) × ByteArray × (List ByteArray) × (List (RT.C 2)) × (List Gb) × (List Gb) × (List ByteArray) × (List Th))
def fl_check_isForm_64_0_0_0 (d : StD x_check_isForm_64_0_0_0) : X_check_isForm_64_0_0_0 := (d.2.2.1.1, d.2.2.1.2.1, d.2.2.1.2.2.1, d.2.2.2.1.1, d.2.2.2.1.2.1, d.2.2.2.1.2.2.1, d.2.2.2.2.2.2.2.1.1, d.2.2.2.2.2.2.2.1.2.1, d.2.2.2.2.2.2.2.1.2.2.1, d.2.2.2.2.2.2.2.1.2.2.2.1)
def un_check_isForm_64_0_0_0 (x : X_check_isForm_64_0_0_0) : StD x_check_isForm_64_0_0_0 := (((), ()), ((((), ()), ()), (x.1, x.2.1, x.2.2.1, ()), (x.2.2.2.1, x.2.2.2.2.1, x.2.2.2.2.2.1, ()), (((), ()), ()), (((), ()), ()), (((), ()), ()), (x.2.2.2.2.2.2.1, x.2.2.2.2.2.2.2.1, x.2.2.2.2.2.2.2.2.1, x.2.2.2.2.2.2.2.2.2, ()), ()))
abbrev X_check_isForm_64_0_0_1 := (Int × ByteArray × (List ByteArray) × (List (RT.C 2)) × ByteArray × (List ByteArray) × (List (RT.C 2)) × (List Gb) × (List Gb) × (List ByteArray) × (List Th))
def fl_check_isForm_64_0_0_1 (d : StD x_check_isForm_64_0_0_1) : X_check_isForm_64_0_0_1 := (d.1.1, d.2.2.1.1, d.2.2.1.2.1, d.2.2.1.2.2.1, d.2.2.2.1.1, d.2.2.2.1.2.1, d.2.2.2.1.2.2.1, d.2.2.2.2.2.2.2.1.1, d.2.2.2.2.2.2.2.1.2.1, d.2.2.2.2.2.2.2.1.2.2.1, d.2.2.2.2.2.2.2.1.2.2.2.1)
def un_check_isForm_64_0_0_1 (x : X_check_isForm_64_0_0_1) : StD x_check_isForm_64_0_0_1 := ((x.1, ()), ((((), ()), ()), (x.2.1, x.2.2.1, x.2.2.2.1, ()), (x.2.2.2.2.1, x.2.2.2.2.2.1, x.2.2.2.2.2.2.1, ()), (((), ()), ()), (((), ()), ()), (((), ()), ()), (x.2.2.2.2.2.2.2.1, x.2.2.2.2.2.2.2.2.1, x.2.2.2.2.2.2.2.2.2.1, x.2.2.2.2.2.2.2.2.2.2, ()), ()))
noncomputable def st_check_isForm_64_0_0 (s0 : (List (RT.C 2))) (s7 : Int) (s8 : Int) (b5 : ByteArray) (b5_1 : (List ByteArray)) (b5_2 : (List (RT.C 2))) (b4 : ByteArray) (b4_1 : (List ByteArray)) (b4_2 : (List (RT.C 2))) (b0 : (List Gb)) (b0_1 : (List Gb)) (b0_2 : (List ByteArray)) (b0_3 : (List Th)) : Option (((List (RT.C 2)) × Int × Int × ByteArray × (List ByteArray) × (List (RT.C 2)) × ByteArray × (List ByteArray) × (List (RT.C 2)) × (List Gb) × (List Gb) × (List ByteArray) × (List Th)) ⊕ ((ByteArray × (List ByteArray) × (List (RT.C 2)) × ByteArray × (List ByteArray) × (List (RT.C 2)) × (List Gb) × (List Gb) × (List ByteArray) × (List Th)) ⊕ (Int × ByteArray × (List ByteArray) × (List (RT.C 2)) × ByteArray × (List ByteArray) × (List (RT.C 2)) × (List Gb) × (List Gb) × (List ByteArray) × (List Th)))) :=
  bif decide (s8 < s7) then
 bif decide (0 ≤ s8) then
 optC s0[s8.toNat]? none fun d18 ↦
 optC (G_check_isStmt (uT2 d18, ())) none fun d19 ↦
 bif !d19 then some (Sum.inr (Sum.inr (s8, b5, b5_1, b5_2, b4, b4_1, b4_2, b0, b0_1, b0_2, b0_3)))
 else some (Sum.inl (s0, s7, Go.IntKind.i64.wrap (s8 + 1), b5, b5_1, b5_2, b4, b4_1, b4_2, b0, b0_1, b0_2, b0_3))
 else none
 else some (Sum.inr (Sum.inl (b5, b5_1, b5_2, b4, b4_1, b4_2, b0, b0_1, b0_2, b0_3)))
noncomputable def sx_check_isForm_64_0_0 (x : X_check_isForm_64_0_0) : Option (X_check_isForm_64_0_0 ⊕ (X_check_isForm_64_0_0_0 ⊕ X_check_isForm_64_0_0_1)) := st_check_isForm_64_0_0 x.1 x.2.1 x.2.2.1 x.2.2.2.1 x.2.2.2.2.1 x.2.2.2.2.2.1 x.2.2.2.2.2.2.1 x.2.2.2.2.2.2.2.1 x.2.2.2.2.2.2.2.2.1 x.2.2.2.2.2.2.2.2.2.1 x.2.2.2.2.2.2.2.2.2.2.1 x.2.2.2.2.2.2.2.2.2.2.2.1 x.2.2.2.2.2.2.2.2.2.2.2.2
theorem rn_check_isForm_64_0_0 (x : X_check_isForm_64_0_0) : rdX cx_check_isForm_64_0 keeps 8 ⟨64, 19, keeps 64, 7⟩ 0 (bodyX 64 0) 7 kp_check_isForm_64_0 (sT s_check_isForm_64_0_0 (un_check_isForm_64_0_0 x)) (sH s_check_isForm_64_0_0 (un_check_isForm_64_0_0 x)) (rdO (fun T h => (rdS s_check_isForm_64_0_0 T h).map fl_check_isForm_64_0_0) (getOr (getE 2 x_check_isForm_64_0_0_0 fl_check_isForm_64_0_0_0) (getE 1 x_check_isForm_64_0_0_1 fl_check_isForm_64_0_0_1))) = sx_check_isForm_64_0_0 x := by kernel_rfl
noncomputable def L_check_isForm_64_0_0 (x : X_check_isForm_64_0_0) : Option (X_check_isForm_64_0_0_0 ⊕ X_check_isForm_64_0_0_1) := iterO (fun x => st_check_isForm_64_0_0 x.1 x.2.1 x.2.2.1 x.2.2.2.1 x.2.2.2.2.1 x.2.2.2.2.2.1 x.2.2.2.2.2.2.1 x.2.2.2.2.2.2.2.1 x.2.2.2.2.2.2.2.2.1 x.2.2.2.2.2.2.2.2.2.1 x.2.2.2.2.2.2.2.2.2.2.1 x.2.2.2.2.2.2.2.2.2.2.2.1 x.2.2.2.2.2.2.2.2.2.2.2.2) FUEL x
noncomputable def q_check_isForm_64_0 : Nat → Tm → Prog (Nat × Tm) := (varP 7 (fun T h => (rdS s_check_isForm_64_0_0 T h).map fl_check_isForm_64_0_0) L_check_isForm_64_0_0 (fun y => .alt y (altE 2 x_check_isForm_64_0_0_0 un_check_isForm_64_0_0_0) (altE 1 x_check_isForm_64_0_0_1 un_check_isForm_64_0_0_1)) (fun _ _ => .fail))
noncomputable def lc_check_isForm_64_0 : Lpc := ⟨64, 0, 19, (fun base T => .norm base (kp_check_isForm_64_0 0) T (q_check_isForm_64_0 base)), by kernel_rfl, by kernel_rfl, (loopU sp_check_isForm [lc_check_isForm_76_0, lc_check_isForm_68_0] 40 1048576 8 (keep := kp_check_isForm_64_0) (q := q_check_isForm_64_0) (by kernel_rfl) (varX_ok (s := s_check_isForm_64_0_0) (un := un_check_isForm_64_0_0) (by rfl) (fun _ => rfl) (getOr_ok (getE_ok (s := x_check_isForm_64_0_0_0) (un := un_check_isForm_64_0_0_0) (by rfl) (fun _ => rfl)) (getE_ok (s := x_check_isForm_64_0_0_1) (un := un_check_isForm_64_0_0_1) (by rfl) (fun _ => rfl))) (step := sx_check_isForm_64_0_0) rn_check_isForm_64_0_0 (fun _ _ e => ⟨_, e⟩) (altOr_ok (altE_ok 2 x_check_isForm_64_0_0_0 un_check_isForm_64_0_0_0) (altE_ok 1 x_check_isForm_64_0_0_1 un_check_isForm_64_0_0_1)) (VarOk.fail _ _)))⟩
noncomputable abbrev cx_check_isForm_63_0 := cxU sp_check_isForm [lc_check_isForm_76_0, lc_check_isForm_68_0, lc_check_isForm_64_0] 40 1048576
def s_check_isForm_63_0_0 : StS := ⟨[(0, .sl tTh), (1, .clo 35 [] [.ptr 3 0]), (7, .int .i64), (8, .int .i64)], [(3, .box [.clo 30 [] []]), (2, .box [.clo 28 [] []]), (1, .box [.clo 24 [] []]), (0, .box [.sl tGb, .sl tGb, .sl .str, .sl tTh])], 4⟩
def x_check_isForm_63_0_0_0 : StS := ⟨[(4, .undef)], [(3, .box [.clo 30 [] []]), (2, .box [.clo 28 [] []]), (1, .box [.clo 24 [] []]), (0, .box [.sl tGb, .sl tGb, .sl .str, .sl tTh])], 4⟩
def x_check_isForm_63_0_0_1 : StS := ⟨[(4, .int .i64)], [(3, .box [.clo 30 [] []]), (2, .box [.clo 28 [] []]), (1, .box [.clo 24 [] []]), (0, .box [.sl tGb, .sl tGb, .sl .str, .sl tTh])], 4⟩
abbrev X_check_isForm_63_0_0 := ((List Th) × Int × Int × (List Gb) × (List Gb) × (List ByteArray) × (List Th))
def fl_check_isForm_63_0_0 (d : StD s_check_isForm_63_0_0) : X_check_isForm_63_0_0 := (d.1.1, d.1.2.2.1, d.1.2.2.2.1, d.2.2.2.2.1.1, d.2.2.2.2.1.2.1, d.2.2.2.2.1.2.2.1, d.2.2.2.2.1.2.2.2.1)
def un_check_isForm_63_0_0 (x : X_check_isForm_63_0_0) : StD s_check_isForm_63_0_0 := ((x.1, ((), ((), ())), x.2.1, x.2.2.1, ()), ((((), ()), ()), (((), ()), ()), (((), ()), ()), (x.2.2.2.1, x.2.2.2.2.1, x.2.2.2.2.2.1, x.2.2.2.2.2.2, ()), ()))
abbrev X_check_isForm_63_0_0_0 := ((List Gb) × (List Gb) × (List ByteArray) × (List Th))
def fl_check_isForm_63_0_0_0 (d : StD x_check_isForm_63_0_0_0) : X_check_isForm_63_0_0_0 := (d.2.2.2.2.1.1, d.2.2.2.2.1.2.1, d.2.2.2.2.1.2.2.1, d.2.2.2.2.1.2.2.2.1)
def un_check_isForm_63_0_0_0 (x : X_check_isForm_63_0_0_0) : StD x_check_isForm_63_0_0_0 := (((), ()), ((((), ()), ()), (((), ()), ()), (((), ()), ()), (x.1, x.2.1, x.2.2.1, x.2.2.2, ()), ()))
abbrev X_check_isForm_63_0_0_1 := (Int × (List Gb) × (List Gb) × (List ByteArray) × (List Th))
def fl_check_isForm_63_0_0_1 (d : StD x_check_isForm_63_0_0_1) : X_check_isForm_63_0_0_1 := (d.1.1, d.2.2.2.2.1.1, d.2.2.2.2.1.2.1, d.2.2.2.2.1.2.2.1, d.2.2.2.2.1.2.2.2.1)
def un_check_isForm_63_0_0_1 (x : X_check_isForm_63_0_0_1) : StD x_check_isForm_63_0_0_1 := ((x.1, ()), ((((), ()), ()), (((), ()), ()), (((), ()), ()), (x.2.1, x.2.2.1, x.2.2.2.1, x.2.2.2.2, ()), ()))
noncomputable def st_check_isForm_63_0_0 (s0 : (List Th)) (s7 : Int) (s8 : Int) (b0 : (List Gb)) (b0_1 : (List Gb)) (b0_2 : (List ByteArray)) (b0_3 : (List Th)) : Option (((List Th) × Int × Int × (List Gb) × (List Gb) × (List ByteArray) × (List Th)) ⊕ (((List Gb) × (List Gb) × (List ByteArray) × (List Th)) ⊕ (Int × (List Gb) × (List Gb) × (List ByteArray) × (List Th)))) :=
  bif decide (s8 < s7) then
 bif decide (0 ≤ s8) then
 optC s0[s8.toNat]? none fun d12 ↦
 optC (G_check_isName (d12.1, ())) none fun d13 ↦
 bif d13 then
 optC (G_check_areNames (d12.2.1, ())) none fun d14 ↦
 bif d14 then
 optC (L_check_isForm_64_0_0 (d12.2.2, (↑(List.length d12.2.2) : Int), 0, d12.1, d12.2.1, d12.2.2, d12.1, d12.2.1, d12.2.2, b0, b0_1, b0_2, b0_3))
 none fun d15 ↦
 Sum.elim
 (fun e16 ↦
 some
 (Sum.inl
 (s0, s7, Go.IntKind.i64.wrap (s8 + 1), e16.2.2.2.2.2.2.1, e16.2.2.2.2.2.2.2.1, e16.2.2.2.2.2.2.2.2.1,
 e16.2.2.2.2.2.2.2.2.2)))
 (fun e16 ↦
 bif !!decide (e16.1 ≥ 0) then
 some
 (Sum.inr
 (Sum.inr
 (s8, e16.2.2.2.2.2.2.2.1, e16.2.2.2.2.2.2.2.2.1, e16.2.2.2.2.2.2.2.2.2.1,
 e16.2.2.2.2.2.2.2.2.2.2)))
 else
 some
 (Sum.inl
 (s0, s7, Go.IntKind.i64.wrap (s8 + 1), e16.2.2.2.2.2.2.2.1, e16.2.2.2.2.2.2.2.2.1, e16.2.2.2.2.2.2.2.2.2.1,
 e16.2.2.2.2.2.2.2.2.2.2)))
 d15
 else some (Sum.inr (Sum.inr (s8, b0, b0_1, b0_2, b0_3)))
 else some (Sum.inr (Sum.inr (s8, b0, b0_1, b0_2, b0_3)))
 else none
 else some (Sum.inr (Sum.inl (b0, b0_1, b0_2, b0_3)))
noncomputable def sx_check_isForm_63_0_0 (x : X_check_isForm_63_0_0) : Option (X_check_isForm_63_0_0 ⊕ (X_check_isForm_63_0_0_0 ⊕ X_check_isForm_63_0_0_1)) := st_check_isForm_63_0_0 x.1 x.2.1 x.2.2.1 x.2.2.2.1 x.2.2.2.2.1 x.2.2.2.2.2.1 x.2.2.2.2.2.2
theorem rn_check_isForm_63_0_0 (x : X_check_isForm_63_0_0) : rdX cx_check_isForm_63_0 keeps 8 ⟨63, 19, keeps 63, 4⟩ 0 (bodyX 63 0) 4 kp_check_isForm_63_0 (sT s_check_isForm_63_0_0 (un_check_isForm_63_0_0 x)) (sH s_check_isForm_63_0_0 (un_check_isForm_63_0_0 x)) (rdO (fun T h => (rdS s_check_isForm_63_0_0 T h).map fl_check_isForm_63_0_0) (getOr (getE 2 x_check_isForm_63_0_0_0 fl_check_isForm_63_0_0_0) (getE 1 x_check_isForm_63_0_0_1 fl_check_isForm_63_0_0_1))) = sx_check_isForm_63_0_0 x := by kernel_rfl
noncomputable def L_check_isForm_63_0_0 (x : X_check_isForm_63_0_0) : Option (X_check_isForm_63_0_0_0 ⊕ X_check_isForm_63_0_0_1) := iterO (fun x => st_check_isForm_63_0_0 x.1 x.2.1 x.2.2.1 x.2.2.2.1 x.2.2.2.2.1 x.2.2.2.2.2.1 x.2.2.2.2.2.2) FUEL x
noncomputable def q_check_isForm_63_0 : Nat → Tm → Prog (Nat × Tm) := (varP 4 (fun T h => (rdS s_check_isForm_63_0_0 T h).map fl_check_isForm_63_0_0) L_check_isForm_63_0_0 (fun y => .alt y (altE 2 x_check_isForm_63_0_0_0 un_check_isForm_63_0_0_0) (altE 1 x_check_isForm_63_0_0_1 un_check_isForm_63_0_0_1)) (fun _ _ => .fail))
noncomputable def lc_check_isForm_63_0 : Lpc := ⟨63, 0, 19, (fun base T => .norm base (kp_check_isForm_63_0 0) T (q_check_isForm_63_0 base)), by kernel_rfl, by kernel_rfl, (loopU sp_check_isForm [lc_check_isForm_76_0, lc_check_isForm_68_0, lc_check_isForm_64_0] 40 1048576 8 (keep := kp_check_isForm_63_0) (q := q_check_isForm_63_0) (by kernel_rfl) (varX_ok (s := s_check_isForm_63_0_0) (un := un_check_isForm_63_0_0) (by rfl) (fun _ => rfl) (getOr_ok (getE_ok (s := x_check_isForm_63_0_0_0) (un := un_check_isForm_63_0_0_0) (by rfl) (fun _ => rfl)) (getE_ok (s := x_check_isForm_63_0_0_1) (un := un_check_isForm_63_0_0_1) (by rfl) (fun _ => rfl))) (step := sx_check_isForm_63_0_0) rn_check_isForm_63_0_0 (fun _ _ e => ⟨_, e⟩) (altOr_ok (altE_ok 2 x_check_isForm_63_0_0_0 un_check_isForm_63_0_0_0) (altE_ok 1 x_check_isForm_63_0_0_1 un_check_isForm_63_0_0_1)) (VarOk.fail _ _)))⟩
noncomputable def g_check_isForm (a0 : Pg) : Option Bool :=
  bif decide ((↑(List.length a0.2.2.2) : Int) > 0) then
 optC (G_check_areNames (a0.2.2.1, ())) none fun d6 ↦
 bif d6 then
 optC (L_check_isForm_76_0_0 (a0.1, (↑(List.length a0.1) : Int), 0, a0)) none fun d7 ↦
 Sum.elim
 (fun e8 ↦
 optC (L_check_isForm_68_0_0 (e8.2.1, (↑e8.2.1.length : Int), 0, e8)) none fun d9 ↦
 Sum.elim
 (fun e10 ↦
 optC (L_check_isForm_63_0_0 (e10.2.2.2, (↑e10.2.2.2.length : Int), 0, e10)) none fun d11 ↦
 Sum.elim (fun e12 ↦ some !decide (-1 ≥ 0)) (fun e12 ↦ some !decide (e12.1 ≥ 0)) d11)
 (fun e10 ↦
 bif !decide (e10.1 ≥ 0) then
 optC (L_check_isForm_63_0_0 (e10.2.2.2.2, (↑e10.2.2.2.2.length : Int), 0, e10.2)) none fun d11 ↦
 Sum.elim (fun e12 ↦ some !decide (-1 ≥ 0)) (fun e12 ↦ some !decide (e12.1 ≥ 0)) d11
 else some false)
 d9)
 (fun e8 ↦
 bif !decide (e8.1 ≥ 0) then
 optC (L_check_isForm_68_0_0 (e8.2.2.1, (↑e8.2.2.1.length : Int), 0, e8.2)) none fun d9 ↦
 Sum.elim
 (fun e10 ↦
 optC (L_check_isForm_63_0_0 (e10.2.2.2, (↑e10.2.2.2.length : Int), 0, e10)) none fun d11 ↦
 Sum.elim (fun e12 ↦ some !decide (-1 ≥ 0)) (fun e12 ↦ some !decide (e12.1 ≥ 0)) d11)
 (fun e10 ↦
 bif !decide (e10.1 ≥ 0) then
 optC (L_check_isForm_63_0_0 (e10.2.2.2.2, (↑e10.2.2.2.2.length : Int), 0, e10.2)) none fun d11 ↦
 Sum.elim (fun e12 ↦ some !decide (-1 ≥ 0)) (fun e12 ↦ some !decide (e12.1 ≥ 0)) d11
 else some false)
 d9
 else some false)
 d7
 else some false
 else some false
theorem raw_check_isForm (a0 : Pg) : evGX (cxU sp_check_isForm [lc_check_isForm_76_0, lc_check_isForm_68_0, lc_check_isForm_64_0, lc_check_isForm_63_0] 40 1048576) keeps 8 11 ash_check_isForm (.dat .bool) ((a0, ()) : (Pg × Unit)) = g_check_isForm a0 := by kernel_rfl
noncomputable def G_check_isForm (x : (Pg × Unit)) : Option Bool := g_check_isForm x.1
noncomputable def con_check_isForm : List AV → Prog AV := conP false ash_check_isForm (.dat .bool) G_check_isForm
theorem snd_check_isForm : SoundA Tryd.prog 11 con_check_isForm := conP_sound (calU sp_check_isForm [lc_check_isForm_76_0, lc_check_isForm_68_0, lc_check_isForm_64_0, lc_check_isForm_63_0] 40 1048576 8 11) false (by rfl) (by rfl) (fun x r e => (evGX_eq _ _ _ _ _ _ _).trans ((raw_check_isForm x.1).trans e)) (.inr fun _ => rfl)
end Go.Proofs.YtmjbedjnojcmfaaDoor.Ex

namespace Go.Proofs.YtmjbedjnojcmfaaDoor.Ex
set_option maxRecDepth 100000
set_option maxHeartbeats 2000000
set_option linter.unusedVariables false
set_option linter.unusedSimpArgs false
set_option linter.unusedSectionVars false
noncomputable def bd_check_isForm_76_0_0 (b0 : (List Gb)) (b0_1 : (List Gb)) (b0_2 : (List ByteArray)) (b0_3 : (List Th)) (s0 : (List Gb)) (i : Nat)  (d : Gb) : Option (Unit ⊕ (X_check_isForm_76_0_0_0 ⊕ X_check_isForm_76_0_0_1)) :=
  optC (G_check_isName (d.1, ())) (none) fun d13 ↦
   bif d13 then
   optC (G_num_Fits ([d.2], ())) (none) fun d14 ↦
   bif !d14 then
   some (Sum.inr (Sum.inr ((i : Int), b0, b0_1, b0_2, b0_3)))
 else some (Sum.inl ())
 else some (Sum.inr (Sum.inr ((i : Int), b0, b0_1, b0_2, b0_3)))
noncomputable def fn_check_isForm_76_0_0 (b0 : (List Gb)) (b0_1 : (List Gb)) (b0_2 : (List ByteArray)) (b0_3 : (List Th)) (s0 : (List Gb))  : Option (X_check_isForm_76_0_0_0 ⊕ X_check_isForm_76_0_0_1) :=
  some (Sum.inl (b0, b0_1, b0_2, b0_3))
noncomputable abbrev rx_check_isForm_76_0_0 (b0 : (List Gb)) (b0_1 : (List Gb)) (b0_2 : (List ByteArray)) (b0_3 : (List Th)) (s0 : (List Gb)) (i : Nat) (s : Unit) : X_check_isForm_76_0_0 := (s0, (s0.length : Int), (i : Int), b0, b0_1, b0_2, b0_3)
noncomputable def rv_check_isForm_76_0_0 (b0 : (List Gb)) (b0_1 : (List Gb)) (b0_2 : (List ByteArray)) (b0_3 : (List Th)) (s0 : (List Gb)) (s : Unit) : Option (X_check_isForm_76_0_0_0 ⊕ X_check_isForm_76_0_0_1) := rangeO (fun i s d => bd_check_isForm_76_0_0 b0 b0_1 b0_2 b0_3 s0 i  d) (fun s => fn_check_isForm_76_0_0 b0 b0_1 b0_2 b0_3 s0 ) 0 s0 s
theorem rg_check_isForm_76_0_0 (b0 : (List Gb)) (b0_1 : (List Gb)) (b0_2 : (List ByteArray)) (b0_3 : (List Th)) (s0 : (List Gb)) (s : Unit) (hl : s0.length < 9223372036854775807) : L_check_isForm_76_0_0 (s0, (s0.length : Int), 0, b0, b0_1, b0_2, b0_3) = rv_check_isForm_76_0_0 b0 b0_1 b0_2 b0_3 s0 s := by
  unfold L_check_isForm_76_0_0 rv_check_isForm_76_0_0
  refine iterO_range0 s0 (rx_check_isForm_76_0_0 b0 b0_1 b0_2 b0_3 s0) _ _ ?_ ?_ s (by unfold FUEL; omega)
  · intro i s d hi hd
    have e1 : decide ((i : Int) < (s0.length : Int)) = true := decide_eq_true (by omega)
    have e2 : decide (0 ≤ (i : Int)) = true := decide_eq_true (by omega)
    have e3 : Int.toNat (i : Int) = i := Int.toNat_natCast i
    have e4 := wrap_next hi (Nat.le_of_lt hl)
    show st_check_isForm_76_0_0 (s0) ((s0.length : Int)) ((i : Int)) (b0) (b0_1) (b0_2) (b0_3) = upd _ (bd_check_isForm_76_0_0 b0 b0_1 b0_2 b0_3 s0 i  d)
    unfold st_check_isForm_76_0_0 bd_check_isForm_76_0_0
    simp only [e1, e2, e3, e4, hd, cond_true, cond_false, optC_some, upd_cond, upd_optC, upd_elim, upd_inl, upd_inr, upd_none]
  · intro s
    have e1 : decide ((s0.length : Int) < (s0.length : Int)) = false := decide_eq_false (by omega)
    show st_check_isForm_76_0_0 (s0) ((s0.length : Int)) ((s0.length : Int)) (b0) (b0_1) (b0_2) (b0_3) = _
    unfold st_check_isForm_76_0_0 fn_check_isForm_76_0_0
    rw [e1]
    rfl
noncomputable def bd_check_isForm_68_0_0 (b0 : (List Gb)) (b0_1 : (List Gb)) (b0_2 : (List ByteArray)) (b0_3 : (List Th)) (s0 : (List Gb)) (i : Nat)  (d : Gb) : Option (Unit ⊕ (X_check_isForm_68_0_0_0 ⊕ X_check_isForm_68_0_0_1)) :=
  optC (G_check_isName (d.1, ())) (none) fun d13 ↦
   bif d13 then
   optC (G_check_isIn (d.2, 1, 16, ())) (none) fun d14 ↦
   bif !d14 then
   some (Sum.inr (Sum.inr ((i : Int), b0, b0_1, b0_2, b0_3)))
 else some (Sum.inl ())
 else some (Sum.inr (Sum.inr ((i : Int), b0, b0_1, b0_2, b0_3)))
noncomputable def fn_check_isForm_68_0_0 (b0 : (List Gb)) (b0_1 : (List Gb)) (b0_2 : (List ByteArray)) (b0_3 : (List Th)) (s0 : (List Gb))  : Option (X_check_isForm_68_0_0_0 ⊕ X_check_isForm_68_0_0_1) :=
  some (Sum.inl (b0, b0_1, b0_2, b0_3))
noncomputable abbrev rx_check_isForm_68_0_0 (b0 : (List Gb)) (b0_1 : (List Gb)) (b0_2 : (List ByteArray)) (b0_3 : (List Th)) (s0 : (List Gb)) (i : Nat) (s : Unit) : X_check_isForm_68_0_0 := (s0, (s0.length : Int), (i : Int), b0, b0_1, b0_2, b0_3)
noncomputable def rv_check_isForm_68_0_0 (b0 : (List Gb)) (b0_1 : (List Gb)) (b0_2 : (List ByteArray)) (b0_3 : (List Th)) (s0 : (List Gb)) (s : Unit) : Option (X_check_isForm_68_0_0_0 ⊕ X_check_isForm_68_0_0_1) := rangeO (fun i s d => bd_check_isForm_68_0_0 b0 b0_1 b0_2 b0_3 s0 i  d) (fun s => fn_check_isForm_68_0_0 b0 b0_1 b0_2 b0_3 s0 ) 0 s0 s
theorem rg_check_isForm_68_0_0 (b0 : (List Gb)) (b0_1 : (List Gb)) (b0_2 : (List ByteArray)) (b0_3 : (List Th)) (s0 : (List Gb)) (s : Unit) (hl : s0.length < 9223372036854775807) : L_check_isForm_68_0_0 (s0, (s0.length : Int), 0, b0, b0_1, b0_2, b0_3) = rv_check_isForm_68_0_0 b0 b0_1 b0_2 b0_3 s0 s := by
  unfold L_check_isForm_68_0_0 rv_check_isForm_68_0_0
  refine iterO_range0 s0 (rx_check_isForm_68_0_0 b0 b0_1 b0_2 b0_3 s0) _ _ ?_ ?_ s (by unfold FUEL; omega)
  · intro i s d hi hd
    have e1 : decide ((i : Int) < (s0.length : Int)) = true := decide_eq_true (by omega)
    have e2 : decide (0 ≤ (i : Int)) = true := decide_eq_true (by omega)
    have e3 : Int.toNat (i : Int) = i := Int.toNat_natCast i
    have e4 := wrap_next hi (Nat.le_of_lt hl)
    show st_check_isForm_68_0_0 (s0) ((s0.length : Int)) ((i : Int)) (b0) (b0_1) (b0_2) (b0_3) = upd _ (bd_check_isForm_68_0_0 b0 b0_1 b0_2 b0_3 s0 i  d)
    unfold st_check_isForm_68_0_0 bd_check_isForm_68_0_0
    simp only [e1, e2, e3, e4, hd, cond_true, cond_false, optC_some, upd_cond, upd_optC, upd_elim, upd_inl, upd_inr, upd_none]
  · intro s
    have e1 : decide ((s0.length : Int) < (s0.length : Int)) = false := decide_eq_false (by omega)
    show st_check_isForm_68_0_0 (s0) ((s0.length : Int)) ((s0.length : Int)) (b0) (b0_1) (b0_2) (b0_3) = _
    unfold st_check_isForm_68_0_0 fn_check_isForm_68_0_0
    rw [e1]
    rfl
noncomputable def bd_check_isForm_64_0_0 (b5 : ByteArray) (b5_1 : (List ByteArray)) (b5_2 : (List (RT.C 2))) (b4 : ByteArray) (b4_1 : (List ByteArray)) (b4_2 : (List (RT.C 2))) (b0 : (List Gb)) (b0_1 : (List Gb)) (b0_2 : (List ByteArray)) (b0_3 : (List Th)) (s0 : (List (RT.C 2))) (i : Nat)  (d : (RT.C 2)) : Option (Unit ⊕ (X_check_isForm_64_0_0_0 ⊕ X_check_isForm_64_0_0_1)) :=
  optC (G_check_isStmt (uT2 d, ())) (none) fun d19 ↦
   bif !d19 then
   some (Sum.inr (Sum.inr ((i : Int), b5, b5_1, b5_2, b4, b4_1, b4_2, b0, b0_1, b0_2, b0_3)))
 else some (Sum.inl ())
noncomputable def fn_check_isForm_64_0_0 (b5 : ByteArray) (b5_1 : (List ByteArray)) (b5_2 : (List (RT.C 2))) (b4 : ByteArray) (b4_1 : (List ByteArray)) (b4_2 : (List (RT.C 2))) (b0 : (List Gb)) (b0_1 : (List Gb)) (b0_2 : (List ByteArray)) (b0_3 : (List Th)) (s0 : (List (RT.C 2)))  : Option (X_check_isForm_64_0_0_0 ⊕ X_check_isForm_64_0_0_1) :=
  some (Sum.inl (b5, b5_1, b5_2, b4, b4_1, b4_2, b0, b0_1, b0_2, b0_3))
noncomputable abbrev rx_check_isForm_64_0_0 (b5 : ByteArray) (b5_1 : (List ByteArray)) (b5_2 : (List (RT.C 2))) (b4 : ByteArray) (b4_1 : (List ByteArray)) (b4_2 : (List (RT.C 2))) (b0 : (List Gb)) (b0_1 : (List Gb)) (b0_2 : (List ByteArray)) (b0_3 : (List Th)) (s0 : (List (RT.C 2))) (i : Nat) (s : Unit) : X_check_isForm_64_0_0 := (s0, (s0.length : Int), (i : Int), b5, b5_1, b5_2, b4, b4_1, b4_2, b0, b0_1, b0_2, b0_3)
noncomputable def rv_check_isForm_64_0_0 (b5 : ByteArray) (b5_1 : (List ByteArray)) (b5_2 : (List (RT.C 2))) (b4 : ByteArray) (b4_1 : (List ByteArray)) (b4_2 : (List (RT.C 2))) (b0 : (List Gb)) (b0_1 : (List Gb)) (b0_2 : (List ByteArray)) (b0_3 : (List Th)) (s0 : (List (RT.C 2))) (s : Unit) : Option (X_check_isForm_64_0_0_0 ⊕ X_check_isForm_64_0_0_1) := rangeO (fun i s d => bd_check_isForm_64_0_0 b5 b5_1 b5_2 b4 b4_1 b4_2 b0 b0_1 b0_2 b0_3 s0 i  d) (fun s => fn_check_isForm_64_0_0 b5 b5_1 b5_2 b4 b4_1 b4_2 b0 b0_1 b0_2 b0_3 s0 ) 0 s0 s
theorem rg_check_isForm_64_0_0 (b5 : ByteArray) (b5_1 : (List ByteArray)) (b5_2 : (List (RT.C 2))) (b4 : ByteArray) (b4_1 : (List ByteArray)) (b4_2 : (List (RT.C 2))) (b0 : (List Gb)) (b0_1 : (List Gb)) (b0_2 : (List ByteArray)) (b0_3 : (List Th)) (s0 : (List (RT.C 2))) (s : Unit) (hl : s0.length < 9223372036854775807) : L_check_isForm_64_0_0 (s0, (s0.length : Int), 0, b5, b5_1, b5_2, b4, b4_1, b4_2, b0, b0_1, b0_2, b0_3) = rv_check_isForm_64_0_0 b5 b5_1 b5_2 b4 b4_1 b4_2 b0 b0_1 b0_2 b0_3 s0 s := by
  unfold L_check_isForm_64_0_0 rv_check_isForm_64_0_0
  refine iterO_range0 s0 (rx_check_isForm_64_0_0 b5 b5_1 b5_2 b4 b4_1 b4_2 b0 b0_1 b0_2 b0_3 s0) _ _ ?_ ?_ s (by unfold FUEL; omega)
  · intro i s d hi hd
    have e1 : decide ((i : Int) < (s0.length : Int)) = true := decide_eq_true (by omega)
    have e2 : decide (0 ≤ (i : Int)) = true := decide_eq_true (by omega)
    have e3 : Int.toNat (i : Int) = i := Int.toNat_natCast i
    have e4 := wrap_next hi (Nat.le_of_lt hl)
    show st_check_isForm_64_0_0 (s0) ((s0.length : Int)) ((i : Int)) (b5) (b5_1) (b5_2) (b4) (b4_1) (b4_2) (b0) (b0_1) (b0_2) (b0_3) = upd _ (bd_check_isForm_64_0_0 b5 b5_1 b5_2 b4 b4_1 b4_2 b0 b0_1 b0_2 b0_3 s0 i  d)
    unfold st_check_isForm_64_0_0 bd_check_isForm_64_0_0
    simp only [e1, e2, e3, e4, hd, cond_true, cond_false, optC_some, upd_cond, upd_optC, upd_elim, upd_inl, upd_inr, upd_none]
  · intro s
    have e1 : decide ((s0.length : Int) < (s0.length : Int)) = false := decide_eq_false (by omega)
    show st_check_isForm_64_0_0 (s0) ((s0.length : Int)) ((s0.length : Int)) (b5) (b5_1) (b5_2) (b4) (b4_1) (b4_2) (b0) (b0_1) (b0_2) (b0_3) = _
    unfold st_check_isForm_64_0_0 fn_check_isForm_64_0_0
    rw [e1]
    rfl
noncomputable def bd_check_isForm_63_0_0  (s0 : (List Th)) (i : Nat) (b0 : (List Gb)) (b0_1 : (List Gb)) (b0_2 : (List ByteArray)) (b0_3 : (List Th)) (d : Th) : Option (((List Gb) × (List Gb) × (List ByteArray) × (List Th)) ⊕ (X_check_isForm_63_0_0_0 ⊕ X_check_isForm_63_0_0_1)) :=
  optC (G_check_isName (d.1, ())) (none) fun d13 ↦
   bif d13 then
   optC (G_check_areNames (d.2.1, ())) (none) fun d14 ↦
   bif d14 then
   optC (L_check_isForm_64_0_0 (d.2.2, (↑(List.length d.2.2) : Int), 0, d.1, d.2.1, d.2.2, d.1, d.2.1, d.2.2, b0, b0_1, b0_2, b0_3)) (none) fun d15 ↦
   Sum.elim (fun e16 ↦
   some (Sum.inl (e16.2.2.2.2.2.2.1, e16.2.2.2.2.2.2.2.1, e16.2.2.2.2.2.2.2.2.1, e16.2.2.2.2.2.2.2.2.2))) (fun e16 ↦
   bif !!decide (e16.1 ≥ 0) then
   some (Sum.inr (Sum.inr ((i : Int), e16.2.2.2.2.2.2.2.1, e16.2.2.2.2.2.2.2.2.1, e16.2.2.2.2.2.2.2.2.2.1, e16.2.2.2.2.2.2.2.2.2.2)))
 else some (Sum.inl (e16.2.2.2.2.2.2.2.1, e16.2.2.2.2.2.2.2.2.1, e16.2.2.2.2.2.2.2.2.2.1, e16.2.2.2.2.2.2.2.2.2.2))) d15
 else some (Sum.inr (Sum.inr ((i : Int), b0, b0_1, b0_2, b0_3)))
 else some (Sum.inr (Sum.inr ((i : Int), b0, b0_1, b0_2, b0_3)))
noncomputable def fn_check_isForm_63_0_0  (s0 : (List Th)) (b0 : (List Gb)) (b0_1 : (List Gb)) (b0_2 : (List ByteArray)) (b0_3 : (List Th)) : Option (X_check_isForm_63_0_0_0 ⊕ X_check_isForm_63_0_0_1) :=
  some (Sum.inl (b0, b0_1, b0_2, b0_3))
noncomputable abbrev rx_check_isForm_63_0_0  (s0 : (List Th)) (i : Nat) (s : ((List Gb) × (List Gb) × (List ByteArray) × (List Th))) : X_check_isForm_63_0_0 := (s0, (s0.length : Int), (i : Int), s.1, s.2.1, s.2.2.1, s.2.2.2)
noncomputable def rv_check_isForm_63_0_0  (s0 : (List Th)) (s : ((List Gb) × (List Gb) × (List ByteArray) × (List Th))) : Option (X_check_isForm_63_0_0_0 ⊕ X_check_isForm_63_0_0_1) := rangeO (fun i s d => bd_check_isForm_63_0_0  s0 i s.1 s.2.1 s.2.2.1 s.2.2.2 d) (fun s => fn_check_isForm_63_0_0  s0 s.1 s.2.1 s.2.2.1 s.2.2.2) 0 s0 s
theorem rg_check_isForm_63_0_0  (s0 : (List Th)) (s : ((List Gb) × (List Gb) × (List ByteArray) × (List Th))) (hl : s0.length < 9223372036854775807) : L_check_isForm_63_0_0 (s0, (s0.length : Int), 0, s.1, s.2.1, s.2.2.1, s.2.2.2) = rv_check_isForm_63_0_0  s0 s := by
  unfold L_check_isForm_63_0_0 rv_check_isForm_63_0_0
  refine iterO_range0 s0 (rx_check_isForm_63_0_0  s0) _ _ ?_ ?_ s (by unfold FUEL; omega)
  · intro i s d hi hd
    have e1 : decide ((i : Int) < (s0.length : Int)) = true := decide_eq_true (by omega)
    have e2 : decide (0 ≤ (i : Int)) = true := decide_eq_true (by omega)
    have e3 : Int.toNat (i : Int) = i := Int.toNat_natCast i
    have e4 := wrap_next hi (Nat.le_of_lt hl)
    show st_check_isForm_63_0_0 (s0) ((s0.length : Int)) ((i : Int)) (s.1) (s.2.1) (s.2.2.1) (s.2.2.2) = upd _ (bd_check_isForm_63_0_0  s0 i s.1 s.2.1 s.2.2.1 s.2.2.2 d)
    unfold st_check_isForm_63_0_0 bd_check_isForm_63_0_0
    simp only [e1, e2, e3, e4, hd, cond_true, cond_false, optC_some, upd_cond, upd_optC, upd_elim, upd_inl, upd_inr, upd_none]
  · intro s
    have e1 : decide ((s0.length : Int) < (s0.length : Int)) = false := decide_eq_false (by omega)
    show st_check_isForm_63_0_0 (s0) ((s0.length : Int)) ((s0.length : Int)) (s.1) (s.2.1) (s.2.2.1) (s.2.2.2) = _
    unfold st_check_isForm_63_0_0 fn_check_isForm_63_0_0
    rw [e1]
    rfl
end Go.Proofs.YtmjbedjnojcmfaaDoor.Ex

namespace Go.Proofs.YtmjbedjnojcmfaaDoor.Ex
open Go.Proofs Go.Proofs.YtmjbedjnojcmfaaDoor
set_option maxRecDepth 100000
set_option maxHeartbeats 2000000
set_option linter.unusedVariables false
set_option linter.unusedSimpArgs false
def ash_check_fits : List Sh := [.dat tPg]
def kp_check_fits_63_0 : Nat → List Nat := fun c => bif c.beq 0 then [0, 1, 7, 8] else [4]
noncomputable def sp_check_fits : List Con := []
def s_check_fits_63_0_0 : StS := ⟨[(0, .sl tTh), (1, .clo 35 [] [.ptr 1 0]), (7, .int .i64), (8, .int .i64)], [(1, .box [.clo 21 [] []]), (0, .box [.sl tGb, .sl tGb, .sl .str, .sl tTh])], 2⟩
def x_check_fits_63_0_0_0 : StS := ⟨[(4, .undef)], [(1, .box [.clo 21 [] []]), (0, .box [.sl tGb, .sl tGb, .sl .str, .sl tTh])], 2⟩
def x_check_fits_63_0_0_1 : StS := ⟨[(4, .int .i64)], [(1, .box [.clo 21 [] []]), (0, .box [.sl tGb, .sl tGb, .sl .str, .sl tTh])], 2⟩
abbrev X_check_fits_63_0_0 := ((List Th) × Int × Int × (List Gb) × (List Gb) × (List ByteArray) × (List Th))
def fl_check_fits_63_0_0 (d : StD s_check_fits_63_0_0) : X_check_fits_63_0_0 := (d.1.1, d.1.2.2.1, d.1.2.2.2.1, d.2.2.1.1, d.2.2.1.2.1, d.2.2.1.2.2.1, d.2.2.1.2.2.2.1)
def un_check_fits_63_0_0 (x : X_check_fits_63_0_0) : StD s_check_fits_63_0_0 := ((x.1, ((), ((), ())), x.2.1, x.2.2.1, ()), ((((), ()), ()), (x.2.2.2.1, x.2.2.2.2.1, x.2.2.2.2.2.1, x.2.2.2.2.2.2, ()), ()))
abbrev X_check_fits_63_0_0_0 := ((List Gb) × (List Gb) × (List ByteArray) × (List Th))
def fl_check_fits_63_0_0_0 (d : StD x_check_fits_63_0_0_0) : X_check_fits_63_0_0_0 := (d.2.2.1.1, d.2.2.1.2.1, d.2.2.1.2.2.1, d.2.2.1.2.2.2.1)
def un_check_fits_63_0_0_0 (x : X_check_fits_63_0_0_0) : StD x_check_fits_63_0_0_0 := (((), ()), ((((), ()), ()), (x.1, x.2.1, x.2.2.1, x.2.2.2, ()), ()))
abbrev X_check_fits_63_0_0_1 := (Int × (List Gb) × (List Gb) × (List ByteArray) × (List Th))
def fl_check_fits_63_0_0_1 (d : StD x_check_fits_63_0_0_1) : X_check_fits_63_0_0_1 := (d.1.1, d.2.2.1.1, d.2.2.1.2.1, d.2.2.1.2.2.1, d.2.2.1.2.2.2.1)
def un_check_fits_63_0_0_1 (x : X_check_fits_63_0_0_1) : StD x_check_fits_63_0_0_1 := ((x.1, ()), ((((), ()), ()), (x.2.1, x.2.2.1, x.2.2.2.1, x.2.2.2.2, ()), ()))
noncomputable def st_check_fits_63_0_0 (s0 : (List Th)) (s7 : Int) (s8 : Int) (b0 : (List Gb)) (b0_1 : (List Gb)) (b0_2 : (List ByteArray)) (b0_3 : (List Th)) : Option (((List Th) × Int × Int × (List Gb) × (List Gb) × (List ByteArray) × (List Th)) ⊕ (((List Gb) × (List Gb) × (List ByteArray) × (List Th)) ⊕ (Int × (List Gb) × (List Gb) × (List ByteArray) × (List Th)))) :=
  bif decide (s8 < s7) then
 bif decide (0 ≤ s8) then
 optC s0[s8.toNat]? none fun d9 ↦
 bif !decide ((↑(List.length d9.2.1) : Int) ≤ 6) then some (Sum.inr (Sum.inr (s8, b0, b0_1, b0_2, b0_3)))
 else some (Sum.inl (s0, s7, Go.IntKind.i64.wrap (s8 + 1), b0, b0_1, b0_2, b0_3))
 else none
 else some (Sum.inr (Sum.inl (b0, b0_1, b0_2, b0_3)))
noncomputable def sx_check_fits_63_0_0 (x : X_check_fits_63_0_0) : Option (X_check_fits_63_0_0 ⊕ (X_check_fits_63_0_0_0 ⊕ X_check_fits_63_0_0_1)) := st_check_fits_63_0_0 x.1 x.2.1 x.2.2.1 x.2.2.2.1 x.2.2.2.2.1 x.2.2.2.2.2.1 x.2.2.2.2.2.2
theorem rn_check_fits_63_0_0 (x : X_check_fits_63_0_0) : rdX (cxU sp_check_fits [] 40 1048576) keeps 8 ⟨63, 19, keeps 63, 2⟩ 0 (bodyX 63 0) 2 kp_check_fits_63_0 (sT s_check_fits_63_0_0 (un_check_fits_63_0_0 x)) (sH s_check_fits_63_0_0 (un_check_fits_63_0_0 x)) (rdO (fun T h => (rdS s_check_fits_63_0_0 T h).map fl_check_fits_63_0_0) (getOr (getE 2 x_check_fits_63_0_0_0 fl_check_fits_63_0_0_0) (getE 1 x_check_fits_63_0_0_1 fl_check_fits_63_0_0_1))) = sx_check_fits_63_0_0 x := by kernel_rfl
noncomputable def L_check_fits_63_0_0 (x : X_check_fits_63_0_0) : Option (X_check_fits_63_0_0_0 ⊕ X_check_fits_63_0_0_1) := iterO (fun x => st_check_fits_63_0_0 x.1 x.2.1 x.2.2.1 x.2.2.2.1 x.2.2.2.2.1 x.2.2.2.2.2.1 x.2.2.2.2.2.2) FUEL x
noncomputable def q_check_fits_63_0 : Nat → Tm → Prog (Nat × Tm) := (varP 2 (fun T h => (rdS s_check_fits_63_0_0 T h).map fl_check_fits_63_0_0) L_check_fits_63_0_0 (fun y => .alt y (altE 2 x_check_fits_63_0_0_0 un_check_fits_63_0_0_0) (altE 1 x_check_fits_63_0_0_1 un_check_fits_63_0_0_1)) (fun _ _ => .fail))
noncomputable def lc_check_fits_63_0 : Lpc := ⟨63, 0, 19, (fun base T => .norm base (kp_check_fits_63_0 0) T (q_check_fits_63_0 base)), by kernel_rfl, by kernel_rfl, (loopU sp_check_fits [] 40 1048576 8 (keep := kp_check_fits_63_0) (q := q_check_fits_63_0) (by kernel_rfl) (varX_ok (s := s_check_fits_63_0_0) (un := un_check_fits_63_0_0) (by rfl) (fun _ => rfl) (getOr_ok (getE_ok (s := x_check_fits_63_0_0_0) (un := un_check_fits_63_0_0_0) (by rfl) (fun _ => rfl)) (getE_ok (s := x_check_fits_63_0_0_1) (un := un_check_fits_63_0_0_1) (by rfl) (fun _ => rfl))) (step := sx_check_fits_63_0_0) rn_check_fits_63_0_0 (fun _ _ e => ⟨_, e⟩) (altOr_ok (altE_ok 2 x_check_fits_63_0_0_0 un_check_fits_63_0_0_0) (altE_ok 1 x_check_fits_63_0_0_1 un_check_fits_63_0_0_1)) (VarOk.fail _ _)))⟩
noncomputable def g_check_fits (a0 : Pg) : Option Bool :=
  bif decide ((↑(List.length a0.1) : Int) ≤ 6) then
 bif decide ((↑(List.length a0.2.1) : Int) ≤ 3) then
 bif decide ((↑(List.length a0.2.2.1) : Int) ≤ 6) then
 bif decide ((↑(List.length a0.2.2.2) : Int) ≤ 4) then
 optC (L_check_fits_63_0_0 (a0.2.2.2, (↑(List.length a0.2.2.2) : Int), 0, a0)) none fun d3 ↦
 Sum.elim (fun e4 ↦ some !decide (-1 ≥ 0)) (fun e4 ↦ some !decide (e4.1 ≥ 0)) d3
 else some false
 else some false
 else some false
 else some false
theorem raw_check_fits (a0 : Pg) : evGX (cxU sp_check_fits [lc_check_fits_63_0] 40 1048576) keeps 8 10 ash_check_fits (.dat .bool) ((a0, ()) : (Pg × Unit)) = g_check_fits a0 := by kernel_rfl
noncomputable def G_check_fits (x : (Pg × Unit)) : Option Bool := g_check_fits x.1
noncomputable def con_check_fits : List AV → Prog AV := conP false ash_check_fits (.dat .bool) G_check_fits
theorem snd_check_fits : SoundA Tryd.prog 10 con_check_fits := conP_sound (calU sp_check_fits [lc_check_fits_63_0] 40 1048576 8 10) false (by rfl) (by rfl) (fun x r e => (evGX_eq _ _ _ _ _ _ _).trans ((raw_check_fits x.1).trans e)) (.inr fun _ => rfl)
end Go.Proofs.YtmjbedjnojcmfaaDoor.Ex

namespace Go.Proofs.YtmjbedjnojcmfaaDoor.Ex
set_option maxRecDepth 100000
set_option maxHeartbeats 2000000
set_option linter.unusedVariables false
set_option linter.unusedSimpArgs false
set_option linter.unusedSectionVars false
noncomputable def bd_check_fits_63_0_0 (b0 : (List Gb)) (b0_1 : (List Gb)) (b0_2 : (List ByteArray)) (b0_3 : (List Th)) (s0 : (List Th)) (i : Nat)  (d : Th) : Option (Unit ⊕ (X_check_fits_63_0_0_0 ⊕ X_check_fits_63_0_0_1)) :=
  bif !decide ((↑(List.length d.2.1) : Int) ≤ 6) then
   some (Sum.inr (Sum.inr ((i : Int), b0, b0_1, b0_2, b0_3)))
 else some (Sum.inl ())
noncomputable def fn_check_fits_63_0_0 (b0 : (List Gb)) (b0_1 : (List Gb)) (b0_2 : (List ByteArray)) (b0_3 : (List Th)) (s0 : (List Th))  : Option (X_check_fits_63_0_0_0 ⊕ X_check_fits_63_0_0_1) :=
  some (Sum.inl (b0, b0_1, b0_2, b0_3))
noncomputable abbrev rx_check_fits_63_0_0 (b0 : (List Gb)) (b0_1 : (List Gb)) (b0_2 : (List ByteArray)) (b0_3 : (List Th)) (s0 : (List Th)) (i : Nat) (s : Unit) : X_check_fits_63_0_0 := (s0, (s0.length : Int), (i : Int), b0, b0_1, b0_2, b0_3)
noncomputable def rv_check_fits_63_0_0 (b0 : (List Gb)) (b0_1 : (List Gb)) (b0_2 : (List ByteArray)) (b0_3 : (List Th)) (s0 : (List Th)) (s : Unit) : Option (X_check_fits_63_0_0_0 ⊕ X_check_fits_63_0_0_1) := rangeO (fun i s d => bd_check_fits_63_0_0 b0 b0_1 b0_2 b0_3 s0 i  d) (fun s => fn_check_fits_63_0_0 b0 b0_1 b0_2 b0_3 s0 ) 0 s0 s
theorem rg_check_fits_63_0_0 (b0 : (List Gb)) (b0_1 : (List Gb)) (b0_2 : (List ByteArray)) (b0_3 : (List Th)) (s0 : (List Th)) (s : Unit) (hl : s0.length < 9223372036854775807) : L_check_fits_63_0_0 (s0, (s0.length : Int), 0, b0, b0_1, b0_2, b0_3) = rv_check_fits_63_0_0 b0 b0_1 b0_2 b0_3 s0 s := by
  unfold L_check_fits_63_0_0 rv_check_fits_63_0_0
  refine iterO_range0 s0 (rx_check_fits_63_0_0 b0 b0_1 b0_2 b0_3 s0) _ _ ?_ ?_ s (by unfold FUEL; omega)
  · intro i s d hi hd
    have e1 : decide ((i : Int) < (s0.length : Int)) = true := decide_eq_true (by omega)
    have e2 : decide (0 ≤ (i : Int)) = true := decide_eq_true (by omega)
    have e3 : Int.toNat (i : Int) = i := Int.toNat_natCast i
    have e4 := wrap_next hi (Nat.le_of_lt hl)
    show st_check_fits_63_0_0 (s0) ((s0.length : Int)) ((i : Int)) (b0) (b0_1) (b0_2) (b0_3) = upd _ (bd_check_fits_63_0_0 b0 b0_1 b0_2 b0_3 s0 i  d)
    unfold st_check_fits_63_0_0 bd_check_fits_63_0_0
    simp only [e1, e2, e3, e4, hd, cond_true, cond_false, optC_some, upd_cond, upd_optC, upd_elim, upd_inl, upd_inr, upd_none]
  · intro s
    have e1 : decide ((s0.length : Int) < (s0.length : Int)) = false := decide_eq_false (by omega)
    show st_check_fits_63_0_0 (s0) ((s0.length : Int)) ((s0.length : Int)) (b0) (b0_1) (b0_2) (b0_3) = _
    unfold st_check_fits_63_0_0 fn_check_fits_63_0_0
    rw [e1]
    rfl
end Go.Proofs.YtmjbedjnojcmfaaDoor.Ex

namespace Go.Proofs.YtmjbedjnojcmfaaDoor.Ex
open Go.Proofs Go.Proofs.YtmjbedjnojcmfaaDoor
set_option maxRecDepth 100000
set_option maxHeartbeats 2000000
set_option linter.unusedVariables false
set_option linter.unusedSimpArgs false
def ash_ref7_shape : List Sh := [.dat tPg]
def kp_ref7_shape_18_0 : Nat → List Nat := fun c => bif c.beq 0 then [1, 3] else [1, 2]
def kp_ref7_shape_18_2 : Nat → List Nat := fun c => bif c.beq 0 then [1, 4] else [1, 2]
def kp_ref7_shape_18_4 : Nat → List Nat := fun c => bif c.beq 0 then [1, 5] else [1, 2]
def kp_ref7_shape_18_8 : Nat → List Nat := fun c => bif c.beq 0 then [1, 6, 7, 8] else [1, 2, 6]
def kp_ref7_shape_18_6 : Nat → List Nat := fun c => bif c.beq 0 then [1, 6] else [1, 2]
noncomputable def sp_ref7_shape : List Con := [⟨43, con_ref7_name, snd_ref7_name⟩, ⟨44, con_ref1_Fits, snd_ref1_Fits⟩, ⟨45, con_ref7_stmts, snd_ref7_stmts⟩]
def s_ref7_shape_18_0_0 : StS := ⟨[(1, .ptr 0 0), (3, .int .i64)], [(0, .box [.sl tGb, .sl tGb, .sl .str, .sl tTh])], 1⟩
def x_ref7_shape_18_0_0_0 : StS := ⟨[(1, .ptr 0 0), (2, .undef)], [(0, .box [.sl tGb, .sl tGb, .sl .str, .sl tTh])], 1⟩
def x_ref7_shape_18_0_0_1 : StS := ⟨[(1, .ptr 0 0), (2, .bool)], [(0, .box [.sl tGb, .sl tGb, .sl .str, .sl tTh])], 1⟩
abbrev X_ref7_shape_18_0_0 := (Int × (List Gb) × (List Gb) × (List ByteArray) × (List Th))
def fl_ref7_shape_18_0_0 (d : StD s_ref7_shape_18_0_0) : X_ref7_shape_18_0_0 := (d.1.2.1, d.2.1.1, d.2.1.2.1, d.2.1.2.2.1, d.2.1.2.2.2.1)
def un_ref7_shape_18_0_0 (x : X_ref7_shape_18_0_0) : StD s_ref7_shape_18_0_0 := (((), x.1, ()), ((x.2.1, x.2.2.1, x.2.2.2.1, x.2.2.2.2, ()), ()))
abbrev X_ref7_shape_18_0_0_0 := ((List Gb) × (List Gb) × (List ByteArray) × (List Th))
def fl_ref7_shape_18_0_0_0 (d : StD x_ref7_shape_18_0_0_0) : X_ref7_shape_18_0_0_0 := (d.2.1.1, d.2.1.2.1, d.2.1.2.2.1, d.2.1.2.2.2.1)
def un_ref7_shape_18_0_0_0 (x : X_ref7_shape_18_0_0_0) : StD x_ref7_shape_18_0_0_0 := (((), (), ()), ((x.1, x.2.1, x.2.2.1, x.2.2.2, ()), ()))
abbrev X_ref7_shape_18_0_0_1 := (Bool × (List Gb) × (List Gb) × (List ByteArray) × (List Th))
def fl_ref7_shape_18_0_0_1 (d : StD x_ref7_shape_18_0_0_1) : X_ref7_shape_18_0_0_1 := (d.1.2.1, d.2.1.1, d.2.1.2.1, d.2.1.2.2.1, d.2.1.2.2.2.1)
def un_ref7_shape_18_0_0_1 (x : X_ref7_shape_18_0_0_1) : StD x_ref7_shape_18_0_0_1 := (((), x.1, ()), ((x.2.1, x.2.2.1, x.2.2.2.1, x.2.2.2.2, ()), ()))
noncomputable def st_ref7_shape_18_0_0 (s3 : Int) (b0 : (List Gb)) (b0_1 : (List Gb)) (b0_2 : (List ByteArray)) (b0_3 : (List Th)) : Option ((Int × (List Gb) × (List Gb) × (List ByteArray) × (List Th)) ⊕ (((List Gb) × (List Gb) × (List ByteArray) × (List Th)) ⊕ (Bool × (List Gb) × (List Gb) × (List ByteArray) × (List Th)))) :=
  bif decide (s3 < (↑b0.length : Int)) then
 bif decide (0 ≤ s3) then
 optC b0[s3.toNat]? none fun d11 ↦
 optC (G_ref7_name (d11.1, ())) none fun d12 ↦
 bif !d12 then some (Sum.inr (Sum.inr (false, b0, b0_1, b0_2, b0_3)))
 else
 bif decide (0 ≤ s3) then
 optC b0[s3.toNat]? none fun d13 ↦
 optC (G_ref1_Fits (d13.2, ())) none fun d14 ↦
 bif !d14 then some (Sum.inr (Sum.inr (false, b0, b0_1, b0_2, b0_3))) else some (Sum.inl (Go.IntKind.i64.wrap (s3 + 1), b0, b0_1, b0_2, b0_3))
 else none
 else none
 else some (Sum.inr (Sum.inl (b0, b0_1, b0_2, b0_3)))
noncomputable def sx_ref7_shape_18_0_0 (x : X_ref7_shape_18_0_0) : Option (X_ref7_shape_18_0_0 ⊕ (X_ref7_shape_18_0_0_0 ⊕ X_ref7_shape_18_0_0_1)) := st_ref7_shape_18_0_0 x.1 x.2.1 x.2.2.1 x.2.2.2.1 x.2.2.2.2
theorem rn_ref7_shape_18_0_0 (x : X_ref7_shape_18_0_0) : rdX (cxU sp_ref7_shape [] 40 1048576) keeps 8 ⟨18, 121, keeps 18, 0⟩ 0 (bodyX 18 0) 0 kp_ref7_shape_18_0 (sT s_ref7_shape_18_0_0 (un_ref7_shape_18_0_0 x)) (sH s_ref7_shape_18_0_0 (un_ref7_shape_18_0_0 x)) (rdO (fun T h => (rdS s_ref7_shape_18_0_0 T h).map fl_ref7_shape_18_0_0) (getOr (getE 2 x_ref7_shape_18_0_0_0 fl_ref7_shape_18_0_0_0) (getE 1 x_ref7_shape_18_0_0_1 fl_ref7_shape_18_0_0_1))) = sx_ref7_shape_18_0_0 x := by kernel_rfl
noncomputable def L_ref7_shape_18_0_0 (x : X_ref7_shape_18_0_0) : Option (X_ref7_shape_18_0_0_0 ⊕ X_ref7_shape_18_0_0_1) := iterO (fun x => st_ref7_shape_18_0_0 x.1 x.2.1 x.2.2.1 x.2.2.2.1 x.2.2.2.2) FUEL x
noncomputable def q_ref7_shape_18_0 : Nat → Tm → Prog (Nat × Tm) := (varP 0 (fun T h => (rdS s_ref7_shape_18_0_0 T h).map fl_ref7_shape_18_0_0) L_ref7_shape_18_0_0 (fun y => .alt y (altE 2 x_ref7_shape_18_0_0_0 un_ref7_shape_18_0_0_0) (altE 1 x_ref7_shape_18_0_0_1 un_ref7_shape_18_0_0_1)) (fun _ _ => .fail))
noncomputable def lc_ref7_shape_18_0 : Lpc := ⟨18, 0, 121, (fun base T => .norm base (kp_ref7_shape_18_0 0) T (q_ref7_shape_18_0 base)), by kernel_rfl, by kernel_rfl, (loopU sp_ref7_shape [] 40 1048576 8 (keep := kp_ref7_shape_18_0) (q := q_ref7_shape_18_0) (by kernel_rfl) (varX_ok (s := s_ref7_shape_18_0_0) (un := un_ref7_shape_18_0_0) (by rfl) (fun _ => rfl) (getOr_ok (getE_ok (s := x_ref7_shape_18_0_0_0) (un := un_ref7_shape_18_0_0_0) (by rfl) (fun _ => rfl)) (getE_ok (s := x_ref7_shape_18_0_0_1) (un := un_ref7_shape_18_0_0_1) (by rfl) (fun _ => rfl))) (step := sx_ref7_shape_18_0_0) rn_ref7_shape_18_0_0 (fun _ _ e => ⟨_, e⟩) (altOr_ok (altE_ok 2 x_ref7_shape_18_0_0_0 un_ref7_shape_18_0_0_0) (altE_ok 1 x_ref7_shape_18_0_0_1 un_ref7_shape_18_0_0_1)) (VarOk.fail _ _)))⟩
noncomputable abbrev cx_ref7_shape_18_2 := cxU sp_ref7_shape [lc_ref7_shape_18_0] 40 1048576
def s_ref7_shape_18_2_0 : StS := ⟨[(1, .ptr 0 0), (4, .int .i64)], [(0, .box [.sl tGb, .sl tGb, .sl .str, .sl tTh])], 1⟩
def x_ref7_shape_18_2_0_0 : StS := ⟨[(1, .ptr 0 0), (2, .undef)], [(0, .box [.sl tGb, .sl tGb, .sl .str, .sl tTh])], 1⟩
def x_ref7_shape_18_2_0_1 : StS := ⟨[(1, .ptr 0 0), (2, .bool)], [(0, .box [.sl tGb, .sl tGb, .sl .str, .sl tTh])], 1⟩
abbrev X_ref7_shape_18_2_0 := (Int × (List Gb) × (List Gb) × (List ByteArray) × (List Th))
def fl_ref7_shape_18_2_0 (d : StD s_ref7_shape_18_2_0) : X_ref7_shape_18_2_0 := (d.1.2.1, d.2.1.1, d.2.1.2.1, d.2.1.2.2.1, d.2.1.2.2.2.1)
def un_ref7_shape_18_2_0 (x : X_ref7_shape_18_2_0) : StD s_ref7_shape_18_2_0 := (((), x.1, ()), ((x.2.1, x.2.2.1, x.2.2.2.1, x.2.2.2.2, ()), ()))
abbrev X_ref7_shape_18_2_0_0 := ((List Gb) × (List Gb) × (List ByteArray) × (List Th))
def fl_ref7_shape_18_2_0_0 (d : StD x_ref7_shape_18_2_0_0) : X_ref7_shape_18_2_0_0 := (d.2.1.1, d.2.1.2.1, d.2.1.2.2.1, d.2.1.2.2.2.1)
def un_ref7_shape_18_2_0_0 (x : X_ref7_shape_18_2_0_0) : StD x_ref7_shape_18_2_0_0 := (((), (), ()), ((x.1, x.2.1, x.2.2.1, x.2.2.2, ()), ()))
abbrev X_ref7_shape_18_2_0_1 := (Bool × (List Gb) × (List Gb) × (List ByteArray) × (List Th))
def fl_ref7_shape_18_2_0_1 (d : StD x_ref7_shape_18_2_0_1) : X_ref7_shape_18_2_0_1 := (d.1.2.1, d.2.1.1, d.2.1.2.1, d.2.1.2.2.1, d.2.1.2.2.2.1)
def un_ref7_shape_18_2_0_1 (x : X_ref7_shape_18_2_0_1) : StD x_ref7_shape_18_2_0_1 := (((), x.1, ()), ((x.2.1, x.2.2.1, x.2.2.2.1, x.2.2.2.2, ()), ()))
noncomputable def st_ref7_shape_18_2_0 (s4 : Int) (b0 : (List Gb)) (b0_1 : (List Gb)) (b0_2 : (List ByteArray)) (b0_3 : (List Th)) : Option ((Int × (List Gb) × (List Gb) × (List ByteArray) × (List Th)) ⊕ (((List Gb) × (List Gb) × (List ByteArray) × (List Th)) ⊕ (Bool × (List Gb) × (List Gb) × (List ByteArray) × (List Th)))) :=
  bif decide (s4 < (↑b0_1.length : Int)) then
 bif decide (0 ≤ s4) then
 optC b0_1[s4.toNat]? none fun d11 ↦
 optC (G_ref7_name (d11.1, ())) none fun d12 ↦
 bif !d12 then some (Sum.inr (Sum.inr (false, b0, b0_1, b0_2, b0_3)))
 else
 bif decide (0 ≤ s4) then
 optC b0_1[s4.toNat]? none fun d13 ↦
 bif decide (d13.2 < 1) then some (Sum.inr (Sum.inr (false, b0, b0_1, b0_2, b0_3)))
 else
 bif decide (0 ≤ s4) then
 optC b0_1[s4.toNat]? none fun d14 ↦
 bif decide (d14.2 > 16) then some (Sum.inr (Sum.inr (false, b0, b0_1, b0_2, b0_3)))
 else some (Sum.inl (Go.IntKind.i64.wrap (s4 + 1), b0, b0_1, b0_2, b0_3))
 else none
 else none
 else none
 else some (Sum.inr (Sum.inl (b0, b0_1, b0_2, b0_3)))
noncomputable def sx_ref7_shape_18_2_0 (x : X_ref7_shape_18_2_0) : Option (X_ref7_shape_18_2_0 ⊕ (X_ref7_shape_18_2_0_0 ⊕ X_ref7_shape_18_2_0_1)) := st_ref7_shape_18_2_0 x.1 x.2.1 x.2.2.1 x.2.2.2.1 x.2.2.2.2
theorem rn_ref7_shape_18_2_0 (x : X_ref7_shape_18_2_0) : rdX cx_ref7_shape_18_2 keeps 8 ⟨18, 121, keeps 18, 0⟩ 2 (bodyX 18 2) 0 kp_ref7_shape_18_2 (sT s_ref7_shape_18_2_0 (un_ref7_shape_18_2_0 x)) (sH s_ref7_shape_18_2_0 (un_ref7_shape_18_2_0 x)) (rdO (fun T h => (rdS s_ref7_shape_18_2_0 T h).map fl_ref7_shape_18_2_0) (getOr (getE 4 x_ref7_shape_18_2_0_0 fl_ref7_shape_18_2_0_0) (getE 1 x_ref7_shape_18_2_0_1 fl_ref7_shape_18_2_0_1))) = sx_ref7_shape_18_2_0 x := by kernel_rfl
noncomputable def L_ref7_shape_18_2_0 (x : X_ref7_shape_18_2_0) : Option (X_ref7_shape_18_2_0_0 ⊕ X_ref7_shape_18_2_0_1) := iterO (fun x => st_ref7_shape_18_2_0 x.1 x.2.1 x.2.2.1 x.2.2.2.1 x.2.2.2.2) FUEL x
noncomputable def q_ref7_shape_18_2 : Nat → Tm → Prog (Nat × Tm) := (varP 0 (fun T h => (rdS s_ref7_shape_18_2_0 T h).map fl_ref7_shape_18_2_0) L_ref7_shape_18_2_0 (fun y => .alt y (altE 4 x_ref7_shape_18_2_0_0 un_ref7_shape_18_2_0_0) (altE 1 x_ref7_shape_18_2_0_1 un_ref7_shape_18_2_0_1)) (fun _ _ => .fail))
noncomputable def lc_ref7_shape_18_2 : Lpc := ⟨18, 2, 121, (fun base T => .norm base (kp_ref7_shape_18_2 0) T (q_ref7_shape_18_2 base)), by kernel_rfl, by kernel_rfl, (loopU sp_ref7_shape [lc_ref7_shape_18_0] 40 1048576 8 (keep := kp_ref7_shape_18_2) (q := q_ref7_shape_18_2) (by kernel_rfl) (varX_ok (s := s_ref7_shape_18_2_0) (un := un_ref7_shape_18_2_0) (by rfl) (fun _ => rfl) (getOr_ok (getE_ok (s := x_ref7_shape_18_2_0_0) (un := un_ref7_shape_18_2_0_0) (by rfl) (fun _ => rfl)) (getE_ok (s := x_ref7_shape_18_2_0_1) (un := un_ref7_shape_18_2_0_1) (by rfl) (fun _ => rfl))) (step := sx_ref7_shape_18_2_0) rn_ref7_shape_18_2_0 (fun _ _ e => ⟨_, e⟩) (altOr_ok (altE_ok 4 x_ref7_shape_18_2_0_0 un_ref7_shape_18_2_0_0) (altE_ok 1 x_ref7_shape_18_2_0_1 un_ref7_shape_18_2_0_1)) (VarOk.fail _ _)))⟩
noncomputable abbrev cx_ref7_shape_18_4 := cxU sp_ref7_shape [lc_ref7_shape_18_0, lc_ref7_shape_18_2] 40 1048576
def s_ref7_shape_18_4_0 : StS := ⟨[(1, .ptr 0 0), (5, .int .i64)], [(0, .box [.sl tGb, .sl tGb, .sl .str, .sl tTh])], 1⟩
def x_ref7_shape_18_4_0_0 : StS := ⟨[(1, .ptr 0 0), (2, .undef)], [(0, .box [.sl tGb, .sl tGb, .sl .str, .sl tTh])], 1⟩
def x_ref7_shape_18_4_0_1 : StS := ⟨[(1, .ptr 0 0), (2, .bool)], [(0, .box [.sl tGb, .sl tGb, .sl .str, .sl tTh])], 1⟩
abbrev X_ref7_shape_18_4_0 := (Int × (List Gb) × (List Gb) × (List ByteArray) × (List Th))
def fl_ref7_shape_18_4_0 (d : StD s_ref7_shape_18_4_0) : X_ref7_shape_18_4_0 := (d.1.2.1, d.2.1.1, d.2.1.2.1, d.2.1.2.2.1, d.2.1.2.2.2.1)
def un_ref7_shape_18_4_0 (x : X_ref7_shape_18_4_0) : StD s_ref7_shape_18_4_0 := (((), x.1, ()), ((x.2.1, x.2.2.1, x.2.2.2.1, x.2.2.2.2, ()), ()))
abbrev X_ref7_shape_18_4_0_0 := ((List Gb) × (List Gb) × (List ByteArray) × (List Th))
def fl_ref7_shape_18_4_0_0 (d : StD x_ref7_shape_18_4_0_0) : X_ref7_shape_18_4_0_0 := (d.2.1.1, d.2.1.2.1, d.2.1.2.2.1, d.2.1.2.2.2.1)
def un_ref7_shape_18_4_0_0 (x : X_ref7_shape_18_4_0_0) : StD x_ref7_shape_18_4_0_0 := (((), (), ()), ((x.1, x.2.1, x.2.2.1, x.2.2.2, ()), ()))
abbrev X_ref7_shape_18_4_0_1 := (Bool × (List Gb) × (List Gb) × (List ByteArray) × (List Th))
def fl_ref7_shape_18_4_0_1 (d : StD x_ref7_shape_18_4_0_1) : X_ref7_shape_18_4_0_1 := (d.1.2.1, d.2.1.1, d.2.1.2.1, d.2.1.2.2.1, d.2.1.2.2.2.1)
def un_ref7_shape_18_4_0_1 (x : X_ref7_shape_18_4_0_1) : StD x_ref7_shape_18_4_0_1 := (((), x.1, ()), ((x.2.1, x.2.2.1, x.2.2.2.1, x.2.2.2.2, ()), ()))
noncomputable def st_ref7_shape_18_4_0 (s5 : Int) (b0 : (List Gb)) (b0_1 : (List Gb)) (b0_2 : (List ByteArray)) (b0_3 : (List Th)) : Option ((Int × (List Gb) × (List Gb) × (List ByteArray) × (List Th)) ⊕ (((List Gb) × (List Gb) × (List ByteArray) × (List Th)) ⊕ (Bool × (List Gb) × (List Gb) × (List ByteArray) × (List Th)))) :=
  bif decide (s5 < (↑b0_2.length : Int)) then
 bif decide (0 ≤ s5) then
 optC b0_2[s5.toNat]? none fun d11 ↦
 optC (G_ref7_name (d11, ())) none fun d12 ↦
 bif !d12 then some (Sum.inr (Sum.inr (false, b0, b0_1, b0_2, b0_3))) else some (Sum.inl (Go.IntKind.i64.wrap (s5 + 1), b0, b0_1, b0_2, b0_3))
 else none
 else some (Sum.inr (Sum.inl (b0, b0_1, b0_2, b0_3)))
noncomputable def sx_ref7_shape_18_4_0 (x : X_ref7_shape_18_4_0) : Option (X_ref7_shape_18_4_0 ⊕ (X_ref7_shape_18_4_0_0 ⊕ X_ref7_shape_18_4_0_1)) := st_ref7_shape_18_4_0 x.1 x.2.1 x.2.2.1 x.2.2.2.1 x.2.2.2.2
theorem rn_ref7_shape_18_4_0 (x : X_ref7_shape_18_4_0) : rdX cx_ref7_shape_18_4 keeps 8 ⟨18, 121, keeps 18, 0⟩ 4 (bodyX 18 4) 0 kp_ref7_shape_18_4 (sT s_ref7_shape_18_4_0 (un_ref7_shape_18_4_0 x)) (sH s_ref7_shape_18_4_0 (un_ref7_shape_18_4_0 x)) (rdO (fun T h => (rdS s_ref7_shape_18_4_0 T h).map fl_ref7_shape_18_4_0) (getOr (getE 6 x_ref7_shape_18_4_0_0 fl_ref7_shape_18_4_0_0) (getE 1 x_ref7_shape_18_4_0_1 fl_ref7_shape_18_4_0_1))) = sx_ref7_shape_18_4_0 x := by kernel_rfl
noncomputable def L_ref7_shape_18_4_0 (x : X_ref7_shape_18_4_0) : Option (X_ref7_shape_18_4_0_0 ⊕ X_ref7_shape_18_4_0_1) := iterO (fun x => st_ref7_shape_18_4_0 x.1 x.2.1 x.2.2.1 x.2.2.2.1 x.2.2.2.2) FUEL x
noncomputable def q_ref7_shape_18_4 : Nat → Tm → Prog (Nat × Tm) := (varP 0 (fun T h => (rdS s_ref7_shape_18_4_0 T h).map fl_ref7_shape_18_4_0) L_ref7_shape_18_4_0 (fun y => .alt y (altE 6 x_ref7_shape_18_4_0_0 un_ref7_shape_18_4_0_0) (altE 1 x_ref7_shape_18_4_0_1 un_ref7_shape_18_4_0_1)) (fun _ _ => .fail))
noncomputable def lc_ref7_shape_18_4 : Lpc := ⟨18, 4, 121, (fun base T => .norm base (kp_ref7_shape_18_4 0) T (q_ref7_shape_18_4 base)), by kernel_rfl, by kernel_rfl, (loopU sp_ref7_shape [lc_ref7_shape_18_0, lc_ref7_shape_18_2] 40 1048576 8 (keep := kp_ref7_shape_18_4) (q := q_ref7_shape_18_4) (by kernel_rfl) (varX_ok (s := s_ref7_shape_18_4_0) (un := un_ref7_shape_18_4_0) (by rfl) (fun _ => rfl) (getOr_ok (getE_ok (s := x_ref7_shape_18_4_0_0) (un := un_ref7_shape_18_4_0_0) (by rfl) (fun _ => rfl)) (getE_ok (s := x_ref7_shape_18_4_0_1) (un := un_ref7_shape_18_4_0_1) (by rfl) (fun _ => rfl))) (step := sx_ref7_shape_18_4_0) rn_ref7_shape_18_4_0 (fun _ _ e => ⟨_, e⟩) (altOr_ok (altE_ok 6 x_ref7_shape_18_4_0_0 un_ref7_shape_18_4_0_0) (altE_ok 1 x_ref7_shape_18_4_0_1 un_ref7_shape_18_4_0_1)) (VarOk.fail _ _)))⟩
noncomputable abbrev cx_ref7_shape_18_8 := cxU sp_ref7_shape [lc_ref7_shape_18_0, lc_ref7_shape_18_2, lc_ref7_shape_18_4] 40 1048576
def s_ref7_shape_18_8_0 : StS := ⟨[(1, .ptr 0 0), (6, .int .i64), (7, .ptr 1 0), (8, .int .i64)], [(0, .box [.sl tGb, .sl tGb, .sl .str, .sl tTh]), (1, .box [.str, .sl .str, .sl (.mu 2)])], 2⟩
def x_ref7_shape_18_8_0_0 : StS := ⟨[(1, .ptr 0 0), (2, .undef), (6, .int .i64)], [(0, .box [.sl tGb, .sl tGb, .sl .str, .sl tTh])], 1⟩
def x_ref7_shape_18_8_0_1 : StS := ⟨[(1, .ptr 0 0), (2, .bool), (6, .int .i64)], [(0, .box [.sl tGb, .sl tGb, .sl .str, .sl tTh])], 1⟩
abbrev X_ref7_shape_18_8_0 := (Int × Int × (List Gb) × (List Gb) × (List ByteArray) × (List Th) × ByteArray × (List ByteArray) × (List (RT.C 2)))
def fl_ref7_shape_18_8_0 (d : StD s_ref7_shape_18_8_0) : X_ref7_shape_18_8_0 := (d.1.2.1, d.1.2.2.2.1, d.2.1.1, d.2.1.2.1, d.2.1.2.2.1, d.2.1.2.2.2.1, d.2.2.1.1, d.2.2.1.2.1, d.2.2.1.2.2.1)
def un_ref7_shape_18_8_0 (x : X_ref7_shape_18_8_0) : StD s_ref7_shape_18_8_0 := (((), x.1, (), x.2.1, ()), ((x.2.2.1, x.2.2.2.1, x.2.2.2.2.1, x.2.2.2.2.2.1, ()), (x.2.2.2.2.2.2.1, x.2.2.2.2.2.2.2.1, x.2.2.2.2.2.2.2.2, ()), ()))
abbrev X_ref7_shape_18_8_0_0 := (Int × (List Gb) × (List Gb) × (List ByteArray) × (List Th))
def fl_ref7_shape_18_8_0_0 (d : StD x_ref7_shape_18_8_0_0) : X_ref7_shape_18_8_0_0 := (d.1.2.2.1, d.2.1.1, d.2.1.2.1, d.2.1.2.2.1, d.2.1.2.2.2.1)
def un_ref7_shape_18_8_0_0 (x : X_ref7_shape_18_8_0_0) : StD x_ref7_shape_18_8_0_0 := (((), (), x.1, ()), ((x.2.1, x.2.2.1, x.2.2.2.1, x.2.2.2.2, ()), ()))
abbrev X_ref7_shape_18_8_0_1 := (Bool × Int × (List Gb) × (List Gb) × (List ByteArray) × (List Th))
def fl_ref7_shape_18_8_0_1 (d : StD x_ref7_shape_18_8_0_1) : X_ref7_shape_18_8_0_1 := (d.1.2.1, d.1.2.2.1, d.2.1.1, d.2.1.2.1, d.2.1.2.2.1, d.2.1.2.2.2.1)
def un_ref7_shape_18_8_0_1 (x : X_ref7_shape_18_8_0_1) : StD x_ref7_shape_18_8_0_1 := (((), x.1, x.2.1, ()), ((x.2.2.1, x.2.2.2.1, x.2.2.2.2.1, x.2.2.2.2.2, ()), ()))
noncomputable def st_ref7_shape_18_8_0 (s6 : Int) (s8 : Int) (b0 : (List Gb)) (b0_1 : (List Gb)) (b0_2 : (List ByteArray)) (b0_3 : (List Th)) (b1 : ByteArray) (b1_1 : (List ByteArray)) (b1_2 : (List (RT.C 2))) : Option ((Int × Int × (List Gb) × (List Gb) × (List ByteArray) × (List Th) × ByteArray × (List ByteArray) × (List (RT.C 2))) ⊕ ((Int × (List Gb) × (List Gb) × (List ByteArray) × (List Th)) ⊕ (Bool × Int × (List Gb) × (List Gb) × (List ByteArray) × (List Th)))) :=
  bif decide (s8 < (↑b1_1.length : Int)) then
 bif decide (0 ≤ s8) then
 optC b1_1[s8.toNat]? none fun d15 ↦
 optC (G_ref7_name (d15, ())) none fun d16 ↦
 bif !d16 then some (Sum.inr (Sum.inr (false, s6, b0, b0_1, b0_2, b0_3))) else some (Sum.inl (s6, Go.IntKind.i64.wrap (s8 + 1), b0, b0_1, b0_2, b0_3, b1, b1_1, b1_2))
 else none
 else some (Sum.inr (Sum.inl (s6, b0, b0_1, b0_2, b0_3)))
noncomputable def sx_ref7_shape_18_8_0 (x : X_ref7_shape_18_8_0) : Option (X_ref7_shape_18_8_0 ⊕ (X_ref7_shape_18_8_0_0 ⊕ X_ref7_shape_18_8_0_1)) := st_ref7_shape_18_8_0 x.1 x.2.1 x.2.2.1 x.2.2.2.1 x.2.2.2.2.1 x.2.2.2.2.2.1 x.2.2.2.2.2.2.1 x.2.2.2.2.2.2.2.1 x.2.2.2.2.2.2.2.2
theorem rn_ref7_shape_18_8_0 (x : X_ref7_shape_18_8_0) : rdX cx_ref7_shape_18_8 keeps 8 ⟨18, 121, keeps 18, 0⟩ 8 (bodyX 18 8) 0 kp_ref7_shape_18_8 (sT s_ref7_shape_18_8_0 (un_ref7_shape_18_8_0 x)) (sH s_ref7_shape_18_8_0 (un_ref7_shape_18_8_0 x)) (rdO (fun T h => (rdS s_ref7_shape_18_8_0 T h).map fl_ref7_shape_18_8_0) (getOr (getE 10 x_ref7_shape_18_8_0_0 fl_ref7_shape_18_8_0_0) (getE 1 x_ref7_shape_18_8_0_1 fl_ref7_shape_18_8_0_1))) = sx_ref7_shape_18_8_0 x := by kernel_rfl
noncomputable def L_ref7_shape_18_8_0 (x : X_ref7_shape_18_8_0) : Option (X_ref7_shape_18_8_0_0 ⊕ X_ref7_shape_18_8_0_1) := iterO (fun x => st_ref7_shape_18_8_0 x.1 x.2.1 x.2.2.1 x.2.2.2.1 x.2.2.2.2.1 x.2.2.2.2.2.1 x.2.2.2.2.2.2.1 x.2.2.2.2.2.2.2.1 x.2.2.2.2.2.2.2.2) FUEL x
noncomputable def q_ref7_shape_18_8 : Nat → Tm → Prog (Nat × Tm) := (varP 0 (fun T h => (rdS s_ref7_shape_18_8_0 T h).map fl_ref7_shape_18_8_0) L_ref7_shape_18_8_0 (fun y => .alt y (altE 10 x_ref7_shape_18_8_0_0 un_ref7_shape_18_8_0_0) (altE 1 x_ref7_shape_18_8_0_1 un_ref7_shape_18_8_0_1)) (fun _ _ => .fail))
noncomputable def lc_ref7_shape_18_8 : Lpc := ⟨18, 8, 121, (fun base T => .norm base (kp_ref7_shape_18_8 0) T (q_ref7_shape_18_8 base)), by kernel_rfl, by kernel_rfl, (loopU sp_ref7_shape [lc_ref7_shape_18_0, lc_ref7_shape_18_2, lc_ref7_shape_18_4] 40 1048576 8 (keep := kp_ref7_shape_18_8) (q := q_ref7_shape_18_8) (by kernel_rfl) (varX_ok (s := s_ref7_shape_18_8_0) (un := un_ref7_shape_18_8_0) (by rfl) (fun _ => rfl) (getOr_ok (getE_ok (s := x_ref7_shape_18_8_0_0) (un := un_ref7_shape_18_8_0_0) (by rfl) (fun _ => rfl)) (getE_ok (s := x_ref7_shape_18_8_0_1) (un := un_ref7_shape_18_8_0_1) (by rfl) (fun _ => rfl))) (step := sx_ref7_shape_18_8_0) rn_ref7_shape_18_8_0 (fun _ _ e => ⟨_, e⟩) (altOr_ok (altE_ok 10 x_ref7_shape_18_8_0_0 un_ref7_shape_18_8_0_0) (altE_ok 1 x_ref7_shape_18_8_0_1 un_ref7_shape_18_8_0_1)) (VarOk.fail _ _)))⟩
noncomputable abbrev cx_ref7_shape_18_6 := cxU sp_ref7_shape [lc_ref7_shape_18_0, lc_ref7_shape_18_2, lc_ref7_shape_18_4, lc_ref7_shape_18_8] 40 1048576
def s_ref7_shape_18_6_0 : StS := ⟨[(1, .ptr 0 0), (6, .int .i64)], [(0, .box [.sl tGb, .sl tGb, .sl .str, .sl tTh])], 1⟩
def x_ref7_shape_18_6_0_0 : StS := ⟨[(1, .ptr 0 0), (2, .undef)], [(0, .box [.sl tGb, .sl tGb, .sl .str, .sl tTh])], 1⟩
def x_ref7_shape_18_6_0_1 : StS := ⟨[(1, .ptr 0 0), (2, .bool)], [(0, .box [.sl tGb, .sl tGb, .sl .str, .sl tTh])], 1⟩
abbrev X_ref7_shape_18_6_0 := (Int × (List Gb) × (List Gb) × (List ByteArray) × (List Th))
def fl_ref7_shape_18_6_0 (d : StD s_ref7_shape_18_6_0) : X_ref7_shape_18_6_0 := (d.1.2.1, d.2.1.1, d.2.1.2.1, d.2.1.2.2.1, d.2.1.2.2.2.1)
def un_ref7_shape_18_6_0 (x : X_ref7_shape_18_6_0) : StD s_ref7_shape_18_6_0 := (((), x.1, ()), ((x.2.1, x.2.2.1, x.2.2.2.1, x.2.2.2.2, ()), ()))
abbrev X_ref7_shape_18_6_0_0 := ((List Gb) × (List Gb) × (List ByteArray) × (List Th))
def fl_ref7_shape_18_6_0_0 (d : StD x_ref7_shape_18_6_0_0) : X_ref7_shape_18_6_0_0 := (d.2.1.1, d.2.1.2.1, d.2.1.2.2.1, d.2.1.2.2.2.1)
def un_ref7_shape_18_6_0_0 (x : X_ref7_shape_18_6_0_0) : StD x_ref7_shape_18_6_0_0 := (((), (), ()), ((x.1, x.2.1, x.2.2.1, x.2.2.2, ()), ()))
abbrev X_ref7_shape_18_6_0_1 := (Bool × (List Gb) × (List Gb) × (List ByteArray) × (List Th))
def fl_ref7_shape_18_6_0_1 (d : StD x_ref7_shape_18_6_0_1) : X_ref7_shape_18_6_0_1 := (d.1.2.1, d.2.1.1, d.2.1.2.1, d.2.1.2.2.1, d.2.1.2.2.2.1)
def un_ref7_shape_18_6_0_1 (x : X_ref7_shape_18_6_0_1) : StD x_ref7_shape_18_6_0_1 := (((), x.1, ()), ((x.2.1, x.2.2.1, x.2.2.2.1, x.2.2.2.2, ()), ()))
noncomputable def st_ref7_shape_18_6_0 (s6 : Int) (b0 : (List Gb)) (b0_1 : (List Gb)) (b0_2 : (List ByteArray)) (b0_3 : (List Th)) : Option ((Int × (List Gb) × (List Gb) × (List ByteArray) × (List Th)) ⊕ (((List Gb) × (List Gb) × (List ByteArray) × (List Th)) ⊕ (Bool × (List Gb) × (List Gb) × (List ByteArray) × (List Th)))) :=
  bif decide (s6 < (↑b0_3.length : Int)) then
 bif decide (0 ≤ s6) then
 optC b0_3[s6.toNat]? none fun d11 ↦
 optC (G_ref7_name (d11.1, ())) none fun d12 ↦
 bif !d12 then some (Sum.inr (Sum.inr (false, b0, b0_1, b0_2, b0_3)))
 else
 optC (G_ref7_stmts (d11.2.2, ())) none fun d13 ↦
 bif !d13 then some (Sum.inr (Sum.inr (false, b0, b0_1, b0_2, b0_3)))
 else
 optC (L_ref7_shape_18_8_0 (s6, 0, b0, b0_1, b0_2, b0_3, d11)) none fun d14 ↦
 Sum.elim (fun e15 ↦ some (Sum.inl (Go.IntKind.i64.wrap (e15.1 + 1), e15.2.1, e15.2.2.1, e15.2.2.2.1, e15.2.2.2.2)))
 (fun e15 ↦ some (Sum.inr (Sum.inr (e15.1, e15.2.2.1, e15.2.2.2.1, e15.2.2.2.2.1, e15.2.2.2.2.2)))) d14
 else none
 else some (Sum.inr (Sum.inl (b0, b0_1, b0_2, b0_3)))
noncomputable def sx_ref7_shape_18_6_0 (x : X_ref7_shape_18_6_0) : Option (X_ref7_shape_18_6_0 ⊕ (X_ref7_shape_18_6_0_0 ⊕ X_ref7_shape_18_6_0_1)) := st_ref7_shape_18_6_0 x.1 x.2.1 x.2.2.1 x.2.2.2.1 x.2.2.2.2
theorem rn_ref7_shape_18_6_0 (x : X_ref7_shape_18_6_0) : rdX cx_ref7_shape_18_6 keeps 8 ⟨18, 121, keeps 18, 0⟩ 6 (bodyX 18 6) 0 kp_ref7_shape_18_6 (sT s_ref7_shape_18_6_0 (un_ref7_shape_18_6_0 x)) (sH s_ref7_shape_18_6_0 (un_ref7_shape_18_6_0 x)) (rdO (fun T h => (rdS s_ref7_shape_18_6_0 T h).map fl_ref7_shape_18_6_0) (getOr (getE 8 x_ref7_shape_18_6_0_0 fl_ref7_shape_18_6_0_0) (getE 1 x_ref7_shape_18_6_0_1 fl_ref7_shape_18_6_0_1))) = sx_ref7_shape_18_6_0 x := by kernel_rfl
noncomputable def L_ref7_shape_18_6_0 (x : X_ref7_shape_18_6_0) : Option (X_ref7_shape_18_6_0_0 ⊕ X_ref7_shape_18_6_0_1) := iterO (fun x => st_ref7_shape_18_6_0 x.1 x.2.1 x.2.2.1 x.2.2.2.1 x.2.2.2.2) FUEL x
noncomputable def q_ref7_shape_18_6 : Nat → Tm → Prog (Nat × Tm) := (varP 0 (fun T h => (rdS s_ref7_shape_18_6_0 T h).map fl_ref7_shape_18_6_0) L_ref7_shape_18_6_0 (fun y => .alt y (altE 8 x_ref7_shape_18_6_0_0 un_ref7_shape_18_6_0_0) (altE 1 x_ref7_shape_18_6_0_1 un_ref7_shape_18_6_0_1)) (fun _ _ => .fail))
noncomputable def lc_ref7_shape_18_6 : Lpc := ⟨18, 6, 121, (fun base T => .norm base (kp_ref7_shape_18_6 0) T (q_ref7_shape_18_6 base)), by kernel_rfl, by kernel_rfl, (loopU sp_ref7_shape [lc_ref7_shape_18_0, lc_ref7_shape_18_2, lc_ref7_shape_18_4, lc_ref7_shape_18_8] 40 1048576 8 (keep := kp_ref7_shape_18_6) (q := q_ref7_shape_18_6) (by kernel_rfl) (varX_ok (s := s_ref7_shape_18_6_0) (un := un_ref7_shape_18_6_0) (by rfl) (fun _ => rfl) (getOr_ok (getE_ok (s := x_ref7_shape_18_6_0_0) (un := un_ref7_shape_18_6_0_0) (by rfl) (fun _ => rfl)) (getE_ok (s := x_ref7_shape_18_6_0_1) (un := un_ref7_shape_18_6_0_1) (by rfl) (fun _ => rfl))) (step := sx_ref7_shape_18_6_0) rn_ref7_shape_18_6_0 (fun _ _ e => ⟨_, e⟩) (altOr_ok (altE_ok 8 x_ref7_shape_18_6_0_0 un_ref7_shape_18_6_0_0) (altE_ok 1 x_ref7_shape_18_6_0_1 un_ref7_shape_18_6_0_1)) (VarOk.fail _ _)))⟩
noncomputable def g_ref7_shape (a0 : Pg) : Option Bool :=
  optC (L_ref7_shape_18_0_0 (0, a0)) none fun d7 ↦
 Sum.elim
 (fun e8 ↦
 optC (L_ref7_shape_18_2_0 (0, e8)) none fun d9 ↦
 Sum.elim
 (fun e10 ↦
 optC (L_ref7_shape_18_4_0 (0, e10)) none fun d11 ↦
 Sum.elim
 (fun e12 ↦
 optC (L_ref7_shape_18_6_0 (0, e12)) none fun d13 ↦
 Sum.elim (fun e14 ↦ some (decide ((↑e14.2.2.2.length : Int) > 0))) (fun e14 ↦ some e14.1) d13)
 (fun e12 ↦ some e12.1) d11)
 (fun e10 ↦ some e10.1) d9)
 (fun e8 ↦ some e8.1) d7
theorem raw_ref7_shape (a0 : Pg) : evGX (cxU sp_ref7_shape [lc_ref7_shape_18_0, lc_ref7_shape_18_2, lc_ref7_shape_18_4, lc_ref7_shape_18_8, lc_ref7_shape_18_6] 40 1048576) keeps 8 18 ash_ref7_shape (.dat .bool) ((a0, ()) : (Pg × Unit)) = g_ref7_shape a0 := by kernel_rfl
noncomputable def G_ref7_shape (x : (Pg × Unit)) : Option Bool := g_ref7_shape x.1
noncomputable def con_ref7_shape : List AV → Prog AV := conP false ash_ref7_shape (.dat .bool) G_ref7_shape
theorem snd_ref7_shape : SoundA Tryd.prog 18 con_ref7_shape := conP_sound (calU sp_ref7_shape [lc_ref7_shape_18_0, lc_ref7_shape_18_2, lc_ref7_shape_18_4, lc_ref7_shape_18_8, lc_ref7_shape_18_6] 40 1048576 8 18) false (by rfl) (by rfl) (fun x r e => (evGX_eq _ _ _ _ _ _ _).trans ((raw_ref7_shape x.1).trans e)) (.inr fun _ => rfl)
end Go.Proofs.YtmjbedjnojcmfaaDoor.Ex

namespace Go.Proofs.YtmjbedjnojcmfaaDoor.Ex
set_option maxRecDepth 100000
set_option maxHeartbeats 2000000
set_option linter.unusedVariables false
set_option linter.unusedSimpArgs false
set_option linter.unusedSectionVars false
noncomputable def bd_ref7_shape_18_0_0 (b0_1 : (List Gb)) (b0_2 : (List ByteArray)) (b0_3 : (List Th)) (b0 : (List Gb)) (i : Nat)  (d : Gb) : Option (Unit ⊕ (X_ref7_shape_18_0_0_0 ⊕ X_ref7_shape_18_0_0_1)) :=
  optC (G_ref7_name (d.1, ())) (none) fun d12 ↦
   bif !d12 then
   some (Sum.inr (Sum.inr (false, b0, b0_1, b0_2, b0_3)))
 else optC (G_ref1_Fits (d.2, ())) (none) fun d14 ↦
   bif !d14 then
   some (Sum.inr (Sum.inr (false, b0, b0_1, b0_2, b0_3)))
 else some (Sum.inl ())
noncomputable def fn_ref7_shape_18_0_0 (b0_1 : (List Gb)) (b0_2 : (List ByteArray)) (b0_3 : (List Th)) (b0 : (List Gb))  : Option (X_ref7_shape_18_0_0_0 ⊕ X_ref7_shape_18_0_0_1) :=
  some (Sum.inl (b0, b0_1, b0_2, b0_3))
noncomputable abbrev rx_ref7_shape_18_0_0 (b0_1 : (List Gb)) (b0_2 : (List ByteArray)) (b0_3 : (List Th)) (b0 : (List Gb)) (i : Nat) (s : Unit) : X_ref7_shape_18_0_0 := ((i : Int), b0, b0_1, b0_2, b0_3)
noncomputable def rv_ref7_shape_18_0_0 (b0_1 : (List Gb)) (b0_2 : (List ByteArray)) (b0_3 : (List Th)) (b0 : (List Gb)) (s : Unit) : Option (X_ref7_shape_18_0_0_0 ⊕ X_ref7_shape_18_0_0_1) := rangeO (fun i s d => bd_ref7_shape_18_0_0 b0_1 b0_2 b0_3 b0 i  d) (fun s => fn_ref7_shape_18_0_0 b0_1 b0_2 b0_3 b0 ) 0 b0 s
theorem rg_ref7_shape_18_0_0 (b0_1 : (List Gb)) (b0_2 : (List ByteArray)) (b0_3 : (List Th)) (b0 : (List Gb)) (s : Unit) (hl : b0.length < 9223372036854775807) : L_ref7_shape_18_0_0 (0, b0, b0_1, b0_2, b0_3) = rv_ref7_shape_18_0_0 b0_1 b0_2 b0_3 b0 s := by
  unfold L_ref7_shape_18_0_0 rv_ref7_shape_18_0_0
  refine iterO_range0 b0 (rx_ref7_shape_18_0_0 b0_1 b0_2 b0_3 b0) _ _ ?_ ?_ s (by unfold FUEL; omega)
  · intro i s d hi hd
    have e1 : decide ((i : Int) < (b0.length : Int)) = true := decide_eq_true (by omega)
    have e2 : decide (0 ≤ (i : Int)) = true := decide_eq_true (by omega)
    have e3 : Int.toNat (i : Int) = i := Int.toNat_natCast i
    have e4 := wrap_next hi (Nat.le_of_lt hl)
    show st_ref7_shape_18_0_0 ((i : Int)) (b0) (b0_1) (b0_2) (b0_3) = upd _ (bd_ref7_shape_18_0_0 b0_1 b0_2 b0_3 b0 i  d)
    unfold st_ref7_shape_18_0_0 bd_ref7_shape_18_0_0
    simp only [e1, e2, e3, e4, hd, cond_true, cond_false, optC_some, upd_cond, upd_optC, upd_elim, upd_inl, upd_inr, upd_none]
  · intro s
    have e1 : decide ((b0.length : Int) < (b0.length : Int)) = false := decide_eq_false (by omega)
    show st_ref7_shape_18_0_0 ((b0.length : Int)) (b0) (b0_1) (b0_2) (b0_3) = _
    unfold st_ref7_shape_18_0_0 fn_ref7_shape_18_0_0
    rw [e1]
    rfl
noncomputable def bd_ref7_shape_18_2_0 (b0 : (List Gb)) (b0_2 : (List ByteArray)) (b0_3 : (List Th)) (b0_1 : (List Gb)) (i : Nat)  (d : Gb) : Option (Unit ⊕ (X_ref7_shape_18_2_0_0 ⊕ X_ref7_shape_18_2_0_1)) :=
  optC (G_ref7_name (d.1, ())) (none) fun d12 ↦
   bif !d12 then
   some (Sum.inr (Sum.inr (false, b0, b0_1, b0_2, b0_3)))
 else bif decide (d.2 < 1) then
   some (Sum.inr (Sum.inr (false, b0, b0_1, b0_2, b0_3)))
 else bif decide (d.2 > 16) then
   some (Sum.inr (Sum.inr (false, b0, b0_1, b0_2, b0_3)))
 else some (Sum.inl ())
noncomputable def fn_ref7_shape_18_2_0 (b0 : (List Gb)) (b0_2 : (List ByteArray)) (b0_3 : (List Th)) (b0_1 : (List Gb))  : Option (X_ref7_shape_18_2_0_0 ⊕ X_ref7_shape_18_2_0_1) :=
  some (Sum.inl (b0, b0_1, b0_2, b0_3))
noncomputable abbrev rx_ref7_shape_18_2_0 (b0 : (List Gb)) (b0_2 : (List ByteArray)) (b0_3 : (List Th)) (b0_1 : (List Gb)) (i : Nat) (s : Unit) : X_ref7_shape_18_2_0 := ((i : Int), b0, b0_1, b0_2, b0_3)
noncomputable def rv_ref7_shape_18_2_0 (b0 : (List Gb)) (b0_2 : (List ByteArray)) (b0_3 : (List Th)) (b0_1 : (List Gb)) (s : Unit) : Option (X_ref7_shape_18_2_0_0 ⊕ X_ref7_shape_18_2_0_1) := rangeO (fun i s d => bd_ref7_shape_18_2_0 b0 b0_2 b0_3 b0_1 i  d) (fun s => fn_ref7_shape_18_2_0 b0 b0_2 b0_3 b0_1 ) 0 b0_1 s
theorem rg_ref7_shape_18_2_0 (b0 : (List Gb)) (b0_2 : (List ByteArray)) (b0_3 : (List Th)) (b0_1 : (List Gb)) (s : Unit) (hl : b0_1.length < 9223372036854775807) : L_ref7_shape_18_2_0 (0, b0, b0_1, b0_2, b0_3) = rv_ref7_shape_18_2_0 b0 b0_2 b0_3 b0_1 s := by
  unfold L_ref7_shape_18_2_0 rv_ref7_shape_18_2_0
  refine iterO_range0 b0_1 (rx_ref7_shape_18_2_0 b0 b0_2 b0_3 b0_1) _ _ ?_ ?_ s (by unfold FUEL; omega)
  · intro i s d hi hd
    have e1 : decide ((i : Int) < (b0_1.length : Int)) = true := decide_eq_true (by omega)
    have e2 : decide (0 ≤ (i : Int)) = true := decide_eq_true (by omega)
    have e3 : Int.toNat (i : Int) = i := Int.toNat_natCast i
    have e4 := wrap_next hi (Nat.le_of_lt hl)
    show st_ref7_shape_18_2_0 ((i : Int)) (b0) (b0_1) (b0_2) (b0_3) = upd _ (bd_ref7_shape_18_2_0 b0 b0_2 b0_3 b0_1 i  d)
    unfold st_ref7_shape_18_2_0 bd_ref7_shape_18_2_0
    simp only [e1, e2, e3, e4, hd, cond_true, cond_false, optC_some, upd_cond, upd_optC, upd_elim, upd_inl, upd_inr, upd_none]
  · intro s
    have e1 : decide ((b0_1.length : Int) < (b0_1.length : Int)) = false := decide_eq_false (by omega)
    show st_ref7_shape_18_2_0 ((b0_1.length : Int)) (b0) (b0_1) (b0_2) (b0_3) = _
    unfold st_ref7_shape_18_2_0 fn_ref7_shape_18_2_0
    rw [e1]
    rfl
noncomputable def bd_ref7_shape_18_4_0 (b0 : (List Gb)) (b0_1 : (List Gb)) (b0_3 : (List Th)) (b0_2 : (List ByteArray)) (i : Nat)  (d : ByteArray) : Option (Unit ⊕ (X_ref7_shape_18_4_0_0 ⊕ X_ref7_shape_18_4_0_1)) :=
  optC (G_ref7_name (d, ())) (none) fun d12 ↦
   bif !d12 then
   some (Sum.inr (Sum.inr (false, b0, b0_1, b0_2, b0_3)))
 else some (Sum.inl ())
noncomputable def fn_ref7_shape_18_4_0 (b0 : (List Gb)) (b0_1 : (List Gb)) (b0_3 : (List Th)) (b0_2 : (List ByteArray))  : Option (X_ref7_shape_18_4_0_0 ⊕ X_ref7_shape_18_4_0_1) :=
  some (Sum.inl (b0, b0_1, b0_2, b0_3))
noncomputable abbrev rx_ref7_shape_18_4_0 (b0 : (List Gb)) (b0_1 : (List Gb)) (b0_3 : (List Th)) (b0_2 : (List ByteArray)) (i : Nat) (s : Unit) : X_ref7_shape_18_4_0 := ((i : Int), b0, b0_1, b0_2, b0_3)
noncomputable def rv_ref7_shape_18_4_0 (b0 : (List Gb)) (b0_1 : (List Gb)) (b0_3 : (List Th)) (b0_2 : (List ByteArray)) (s : Unit) : Option (X_ref7_shape_18_4_0_0 ⊕ X_ref7_shape_18_4_0_1) := rangeO (fun i s d => bd_ref7_shape_18_4_0 b0 b0_1 b0_3 b0_2 i  d) (fun s => fn_ref7_shape_18_4_0 b0 b0_1 b0_3 b0_2 ) 0 b0_2 s
theorem rg_ref7_shape_18_4_0 (b0 : (List Gb)) (b0_1 : (List Gb)) (b0_3 : (List Th)) (b0_2 : (List ByteArray)) (s : Unit) (hl : b0_2.length < 9223372036854775807) : L_ref7_shape_18_4_0 (0, b0, b0_1, b0_2, b0_3) = rv_ref7_shape_18_4_0 b0 b0_1 b0_3 b0_2 s := by
  unfold L_ref7_shape_18_4_0 rv_ref7_shape_18_4_0
  refine iterO_range0 b0_2 (rx_ref7_shape_18_4_0 b0 b0_1 b0_3 b0_2) _ _ ?_ ?_ s (by unfold FUEL; omega)
  · intro i s d hi hd
    have e1 : decide ((i : Int) < (b0_2.length : Int)) = true := decide_eq_true (by omega)
    have e2 : decide (0 ≤ (i : Int)) = true := decide_eq_true (by omega)
    have e3 : Int.toNat (i : Int) = i := Int.toNat_natCast i
    have e4 := wrap_next hi (Nat.le_of_lt hl)
    show st_ref7_shape_18_4_0 ((i : Int)) (b0) (b0_1) (b0_2) (b0_3) = upd _ (bd_ref7_shape_18_4_0 b0 b0_1 b0_3 b0_2 i  d)
    unfold st_ref7_shape_18_4_0 bd_ref7_shape_18_4_0
    simp only [e1, e2, e3, e4, hd, cond_true, cond_false, optC_some, upd_cond, upd_optC, upd_elim, upd_inl, upd_inr, upd_none]
  · intro s
    have e1 : decide ((b0_2.length : Int) < (b0_2.length : Int)) = false := decide_eq_false (by omega)
    show st_ref7_shape_18_4_0 ((b0_2.length : Int)) (b0) (b0_1) (b0_2) (b0_3) = _
    unfold st_ref7_shape_18_4_0 fn_ref7_shape_18_4_0
    rw [e1]
    rfl
noncomputable def bd_ref7_shape_18_8_0 (s6 : Int) (b0 : (List Gb)) (b0_1 : (List Gb)) (b0_2 : (List ByteArray)) (b0_3 : (List Th)) (b1 : ByteArray) (b1_2 : (List (RT.C 2))) (b1_1 : (List ByteArray)) (i : Nat)  (d : ByteArray) : Option (Unit ⊕ (X_ref7_shape_18_8_0_0 ⊕ X_ref7_shape_18_8_0_1)) :=
  optC (G_ref7_name (d, ())) (none) fun d16 ↦
   bif !d16 then
   some (Sum.inr (Sum.inr (false, s6, b0, b0_1, b0_2, b0_3)))
 else some (Sum.inl ())
noncomputable def fn_ref7_shape_18_8_0 (s6 : Int) (b0 : (List Gb)) (b0_1 : (List Gb)) (b0_2 : (List ByteArray)) (b0_3 : (List Th)) (b1 : ByteArray) (b1_2 : (List (RT.C 2))) (b1_1 : (List ByteArray))  : Option (X_ref7_shape_18_8_0_0 ⊕ X_ref7_shape_18_8_0_1) :=
  some (Sum.inl (s6, b0, b0_1, b0_2, b0_3))
noncomputable abbrev rx_ref7_shape_18_8_0 (s6 : Int) (b0 : (List Gb)) (b0_1 : (List Gb)) (b0_2 : (List ByteArray)) (b0_3 : (List Th)) (b1 : ByteArray) (b1_2 : (List (RT.C 2))) (b1_1 : (List ByteArray)) (i : Nat) (s : Unit) : X_ref7_shape_18_8_0 := (s6, (i : Int), b0, b0_1, b0_2, b0_3, b1, b1_1, b1_2)
noncomputable def rv_ref7_shape_18_8_0 (s6 : Int) (b0 : (List Gb)) (b0_1 : (List Gb)) (b0_2 : (List ByteArray)) (b0_3 : (List Th)) (b1 : ByteArray) (b1_2 : (List (RT.C 2))) (b1_1 : (List ByteArray)) (s : Unit) : Option (X_ref7_shape_18_8_0_0 ⊕ X_ref7_shape_18_8_0_1) := rangeO (fun i s d => bd_ref7_shape_18_8_0 s6 b0 b0_1 b0_2 b0_3 b1 b1_2 b1_1 i  d) (fun s => fn_ref7_shape_18_8_0 s6 b0 b0_1 b0_2 b0_3 b1 b1_2 b1_1 ) 0 b1_1 s
theorem rg_ref7_shape_18_8_0 (s6 : Int) (b0 : (List Gb)) (b0_1 : (List Gb)) (b0_2 : (List ByteArray)) (b0_3 : (List Th)) (b1 : ByteArray) (b1_2 : (List (RT.C 2))) (b1_1 : (List ByteArray)) (s : Unit) (hl : b1_1.length < 9223372036854775807) : L_ref7_shape_18_8_0 (s6, 0, b0, b0_1, b0_2, b0_3, b1, b1_1, b1_2) = rv_ref7_shape_18_8_0 s6 b0 b0_1 b0_2 b0_3 b1 b1_2 b1_1 s := by
  unfold L_ref7_shape_18_8_0 rv_ref7_shape_18_8_0
  refine iterO_range0 b1_1 (rx_ref7_shape_18_8_0 s6 b0 b0_1 b0_2 b0_3 b1 b1_2 b1_1) _ _ ?_ ?_ s (by unfold FUEL; omega)
  · intro i s d hi hd
    have e1 : decide ((i : Int) < (b1_1.length : Int)) = true := decide_eq_true (by omega)
    have e2 : decide (0 ≤ (i : Int)) = true := decide_eq_true (by omega)
    have e3 : Int.toNat (i : Int) = i := Int.toNat_natCast i
    have e4 := wrap_next hi (Nat.le_of_lt hl)
    show st_ref7_shape_18_8_0 (s6) ((i : Int)) (b0) (b0_1) (b0_2) (b0_3) (b1) (b1_1) (b1_2) = upd _ (bd_ref7_shape_18_8_0 s6 b0 b0_1 b0_2 b0_3 b1 b1_2 b1_1 i  d)
    unfold st_ref7_shape_18_8_0 bd_ref7_shape_18_8_0
    simp only [e1, e2, e3, e4, hd, cond_true, cond_false, optC_some, upd_cond, upd_optC, upd_elim, upd_inl, upd_inr, upd_none]
  · intro s
    have e1 : decide ((b1_1.length : Int) < (b1_1.length : Int)) = false := decide_eq_false (by omega)
    show st_ref7_shape_18_8_0 (s6) ((b1_1.length : Int)) (b0) (b0_1) (b0_2) (b0_3) (b1) (b1_1) (b1_2) = _
    unfold st_ref7_shape_18_8_0 fn_ref7_shape_18_8_0
    rw [e1]
    rfl
end Go.Proofs.YtmjbedjnojcmfaaDoor.Ex

namespace Go.Proofs.YtmjbedjnojcmfaaDoor.Ex
set_option maxRecDepth 100000
set_option linter.unusedVariables false
set_option linter.unusedSimpArgs false
theorem rangeO_badS {σ α Y : Type} {f : Nat → σ → α → Option (σ ⊕ Y)} {fin : σ → Option Y} {p : α → Bool} {o : Nat → Y} {s : σ} : ∀ (l : List α) (i : Nat), (∀ j d, l[j]? = some d → f (i + j) s d = bif p d then some (.inl s) else some (.inr (o (i + j)))) →
    ∃ j, rangeO f fin i l s = bif l.all p then fin s else some (o j)
  | [], i, _ => ⟨0, rfl⟩
  | d :: r, i, h => by
    obtain ⟨j, k⟩ := rangeO_badS (fin := fin) r (i + 1) fun j d hd => by
      have := h (j + 1) d hd
      rwa [show i + (j + 1) = i + 1 + j by omega] at this
    have h0 := h 0 d rfl
    rw [Nat.add_zero] at h0
    rw [rangeO, h0, List.all_cons]
    cases p d
    · exact ⟨i, rfl⟩
    · exact ⟨j, k⟩
structure okT (t : Th) : Prop where
  n : t.1.data.toList.length ≤ 9223372036854775807
  l : t.2.1.length < 9223372036854775807
  ln : ∀ x ∈ t.2.1, x.data.toList.length ≤ 9223372036854775807
  b : t.2.2.length < 9223372036854775807
  bs : ∀ d ∈ t.2.2, ok2 d
structure okP (p : Pg) : Prop where
  g : p.1.length < 9223372036854775807
  gn : ∀ x ∈ p.1, x.1.data.toList.length ≤ 9223372036854775807
  a : p.2.1.length < 9223372036854775807
  an : ∀ x ∈ p.2.1, x.1.data.toList.length ≤ 9223372036854775807
  m : p.2.2.1.length < 9223372036854775807
  mn : ∀ x ∈ p.2.2.1, x.data.toList.length ≤ 9223372036854775807
  t : p.2.2.2.length < 9223372036854775807
  ts : ∀ t ∈ p.2.2.2, okT t
def fitI (n : Int) : Bool := decide (n ≥ -2147483648) && decide (n ≤ 2147483647)
theorem n_ref1_Fits (n : Int) : g_ref1_Fits n = some (fitI n) := by
  unfold g_ref1_Fits fitI
  cases decide (n ≥ -2147483648) <;> rfl
theorem n_Fits1 (n : Int) : g_num_Fits [n] = some (fitI n) := by
  unfold g_num_Fits
  have e : L_num_Fits_26_0_0 ([n], (([n] : List Int).length : Int), 0) = _ := rg_num_Fits_26_0_0 [n] () (by simp)
  rw [e]
  unfold rv_num_Fits_26_0_0 bd_num_Fits_26_0_0 fn_num_Fits_26_0_0 fitI
  by_cases h1 : n < -2147483648
  · simp only [rangeO, decide_eq_true h1, decide_eq_false (show ¬ n ≥ -2147483648 by omega)]; rfl
  · by_cases h2 : n > 2147483647
    · simp only [rangeO, decide_eq_false h1, decide_eq_true h2, decide_eq_true (show n ≥ -2147483648 by omega), decide_eq_false (show ¬ n ≤ 2147483647 by omega)]; rfl
    · simp only [rangeO, decide_eq_false h1, decide_eq_false h2, decide_eq_true (show n ≥ -2147483648 by omega), decide_eq_true (show n ≤ 2147483647 by omega)]; rfl
def fitsB (p : Pg) : Bool := decide ((p.1.length : Int) ≤ 6) && (decide ((p.2.1.length : Int) ≤ 3) && (decide ((p.2.2.1.length : Int) ≤ 6) && (decide ((p.2.2.2.length : Int) ≤ 4) && p.2.2.2.all fun t => decide ((t.2.1.length : Int) ≤ 6))))
theorem n_fits (p : Pg) (hp : okP p) : g_check_fits p = some (fitsB p) := by
  obtain ⟨pg, pa, pm, pt⟩ := p
  obtain ⟨j, q⟩ := rangeO_bad (f := fun i _ d => bd_check_fits_63_0_0 pg pa pm pt pt i d) (fin := fun _ => fn_check_fits_63_0_0 pg pa pm pt pt) (p := fun t : Th => decide ((t.2.1.length : Int) ≤ 6)) (o := fun i => .inr ((i : Int), pg, pa, pm, pt)) pt 0 fun j d hd => by
    unfold bd_check_fits_63_0_0
    cases decide ((d.2.1.length : Int) ≤ 6) <;> rfl
  have z : L_check_fits_63_0_0 (pt, (pt.length : Int), 0, pg, pa, pm, pt) = bif pt.all (fun t : Th => decide ((t.2.1.length : Int) ≤ 6)) then some (.inl (pg, pa, pm, pt)) else some (.inr ((j : Int), pg, pa, pm, pt)) := (rg_check_fits_63_0_0 pg pa pm pt pt () hp.t).trans q
  have dj : decide ((j : Int) ≥ 0) = true := decide_eq_true (by omega)
  have dm : decide ((-1 : Int) ≥ 0) = false := by decide
  unfold g_check_fits fitsB
  simp only [z]
  cases pt.all (fun t : Th => decide ((t.2.1.length : Int) ≤ 6))
  · simp only [cond_false, optC_some, Sum.elim_inr, dj, Bool.not_true, cA]
  · simp only [cond_true, optC_some, Sum.elim_inl, dm, Bool.not_false, cA]
def glB (g : Gb) : Bool := nameB g.1 && fitI g.2
def arB (a : Gb) : Bool := nameB a.1 && (decide (1 ≤ a.2) && decide (a.2 ≤ 16))
def thB (t : Th) : Bool := nameB t.1 && (t.2.1.all nameB && t.2.2.all smB)
def formB (p : Pg) : Bool := decide ((p.2.2.2.length : Int) > 0) && (p.2.2.1.all nameB && (p.1.all glB && (p.2.1.all arB && p.2.2.2.all thB)))
theorem n_isForm (p : Pg) (hp : okP p) : g_check_isForm p = some (formB p) := by
  obtain ⟨pg, pa, pm, pt⟩ := p
  obtain ⟨j1, q1⟩ := rangeO_bad (f := fun i _ d => bd_check_isForm_76_0_0 pg pa pm pt pg i d) (fin := fun _ => fn_check_isForm_76_0_0 pg pa pm pt pg) (p := glB) (o := fun i => .inr ((i : Int), pg, pa, pm, pt)) pg 0 fun j d hd => by
    unfold bd_check_isForm_76_0_0 glB
    simp only [G_check_isName, n_isName, G_num_Fits, n_Fits1, optC_some]
    cases nameB d.1 <;> cases fitI d.2 <;> rfl
  have z1 : L_check_isForm_76_0_0 (pg, (pg.length : Int), 0, pg, pa, pm, pt) = bif pg.all glB then some (.inl (pg, pa, pm, pt)) else some (.inr ((j1 : Int), pg, pa, pm, pt)) := (rg_check_isForm_76_0_0 pg pa pm pt pg () hp.g).trans q1
  obtain ⟨j2, q2⟩ := rangeO_bad (f := fun i _ d => bd_check_isForm_68_0_0 pg pa pm pt pa i d) (fin := fun _ => fn_check_isForm_68_0_0 pg pa pm pt pa) (p := arB) (o := fun i => .inr ((i : Int), pg, pa, pm, pt)) pa 0 fun j d hd => by
    unfold bd_check_isForm_68_0_0 arB
    simp only [G_check_isName, n_isName, G_check_isIn, n_isIn, optC_some]
    cases nameB d.1 <;> cases decide (1 ≤ d.2) <;> cases decide (d.2 ≤ 16) <;> rfl
  have z2 : L_check_isForm_68_0_0 (pa, (pa.length : Int), 0, pg, pa, pm, pt) = bif pa.all arB then some (.inl (pg, pa, pm, pt)) else some (.inr ((j2 : Int), pg, pa, pm, pt)) := (rg_check_isForm_68_0_0 pg pa pm pt pa () hp.a).trans q2
  obtain ⟨j3, q3⟩ := rangeO_badS (f := fun i (s : Pg) d => bd_check_isForm_63_0_0 pt i s.1 s.2.1 s.2.2.1 s.2.2.2 d) (fin := fun s => fn_check_isForm_63_0_0 pt s.1 s.2.1 s.2.2.1 s.2.2.2) (p := thB) (o := fun i => .inr ((i : Int), pg, pa, pm, pt)) (s := (pg, pa, pm, pt)) pt 0 fun j d hd => by
    have ht := hp.ts d (List.mem_of_getElem? hd)
    obtain ⟨tn, tl, tb⟩ := d
    obtain ⟨j', q'⟩ := rangeO_bad (f := fun i _ d => bd_check_isForm_64_0_0 tn tl tb tn tl tb pg pa pm pt tb i d) (fin := fun _ => fn_check_isForm_64_0_0 tn tl tb tn tl tb pg pa pm pt tb) (p := smB) (o := fun i => .inr ((i : Int), tn, tl, tb, tn, tl, tb, pg, pa, pm, pt)) tb 0 fun j d hd => by
      unfold bd_check_isForm_64_0_0
      simp only [n_isStmt d (ht.bs d (List.mem_of_getElem? hd)), optC_some]
      cases smB d <;> rfl
    have z' : L_check_isForm_64_0_0 (tb, (tb.length : Int), 0, tn, tl, tb, tn, tl, tb, pg, pa, pm, pt) = bif tb.all smB then some (.inl (tn, tl, tb, tn, tl, tb, pg, pa, pm, pt)) else some (.inr ((j' : Int), tn, tl, tb, tn, tl, tb, pg, pa, pm, pt)) := (rg_check_isForm_64_0_0 tn tl tb tn tl tb pg pa pm pt tb () ht.b).trans q'
    have dj : decide ((j' : Int) ≥ 0) = true := decide_eq_true (by omega)
    unfold bd_check_isForm_63_0_0 thB
    simp only [G_check_isName, n_isName, G_check_areNames, n_areNames tl ht.l, optC_some, z']
    cases nameB tn
    · rfl
    · cases tl.all nameB
      · rfl
      · cases tb.all smB
        · simp only [cond_true, cond_false, optC_some, Sum.elim_inr, dj, Bool.not_true, Bool.not_false, Bool.and_false]
        · rfl
  have z3 : L_check_isForm_63_0_0 (pt, (pt.length : Int), 0, pg, pa, pm, pt) = bif pt.all thB then some (.inl (pg, pa, pm, pt)) else some (.inr ((j3 : Int), pg, pa, pm, pt)) := (rg_check_isForm_63_0_0 pt (pg, pa, pm, pt) hp.t).trans q3
  have d1 : decide ((j1 : Int) ≥ 0) = true := decide_eq_true (by omega)
  have d2 : decide ((j2 : Int) ≥ 0) = true := decide_eq_true (by omega)
  have d3 : decide ((j3 : Int) ≥ 0) = true := decide_eq_true (by omega)
  have dm : decide ((-1 : Int) ≥ 0) = false := by decide
  unfold g_check_isForm formB
  simp only [G_check_areNames, n_areNames pm hp.m, optC_some, z1]
  cases decide ((pt.length : Int) > 0)
  · rfl
  cases pm.all nameB
  · rfl
  cases pg.all glB
  · simp only [cond_true, cond_false, optC_some, Sum.elim_inr, d1, Bool.not_true, Bool.false_and, Bool.and_false, Bool.true_and]
  simp only [cond_true, optC_some, Sum.elim_inl, z2, Bool.true_and]
  cases pa.all arB
  · simp only [cond_true, cond_false, optC_some, Sum.elim_inr, d2, Bool.not_true, Bool.false_and, Bool.and_false, Bool.true_and]
  simp only [cond_true, optC_some, Sum.elim_inl, z3, Bool.true_and]
  cases pt.all thB
  · simp only [cond_true, cond_false, optC_some, Sum.elim_inr, d3, Bool.not_true]
  · rfl
theorem n_shape (p : Pg) (hp : okP p) : g_ref7_shape p = some (formB p) := by
  obtain ⟨pg, pa, pm, pt⟩ := p
  obtain ⟨j1, q1⟩ := rangeO_bad (f := fun i _ d => bd_ref7_shape_18_0_0 pa pm pt pg i d) (fin := fun _ => fn_ref7_shape_18_0_0 pa pm pt pg) (p := glB) (o := fun i => .inr (false, pg, pa, pm, pt)) pg 0 fun j d hd => by
    unfold bd_ref7_shape_18_0_0 glB
    simp only [G_ref7_name, n_ref7_name d.1 (hp.gn d (List.mem_of_getElem? hd)), G_ref1_Fits, n_ref1_Fits, optC_some]
    cases nameB d.1 <;> cases fitI d.2 <;> rfl
  have z1 : L_ref7_shape_18_0_0 (0, pg, pa, pm, pt) = bif pg.all glB then some (.inl (pg, pa, pm, pt)) else some (.inr (false, pg, pa, pm, pt)) := (rg_ref7_shape_18_0_0 pa pm pt pg () hp.g).trans q1
  obtain ⟨j2, q2⟩ := rangeO_bad (f := fun i _ d => bd_ref7_shape_18_2_0 pg pm pt pa i d) (fin := fun _ => fn_ref7_shape_18_2_0 pg pm pt pa) (p := arB) (o := fun i => .inr (false, pg, pa, pm, pt)) pa 0 fun j d hd => by
    unfold bd_ref7_shape_18_2_0 arB
    simp only [G_ref7_name, n_ref7_name d.1 (hp.an d (List.mem_of_getElem? hd)), optC_some]
    rw [← ltB, ← gtB]
    cases nameB d.1 <;> cases decide (d.2 < 1) <;> cases decide (d.2 > 16) <;> rfl
  have z2 : L_ref7_shape_18_2_0 (0, pg, pa, pm, pt) = bif pa.all arB then some (.inl (pg, pa, pm, pt)) else some (.inr (false, pg, pa, pm, pt)) := (rg_ref7_shape_18_2_0 pg pm pt pa () hp.a).trans q2
  obtain ⟨j4, q4⟩ := rangeO_bad (f := fun i _ d => bd_ref7_shape_18_4_0 pg pa pt pm i d) (fin := fun _ => fn_ref7_shape_18_4_0 pg pa pt pm) (p := nameB) (o := fun i => .inr (false, pg, pa, pm, pt)) pm 0 fun j d hd => by
    unfold bd_ref7_shape_18_4_0
    simp only [G_ref7_name, n_ref7_name d (hp.mn d (List.mem_of_getElem? hd)), optC_some]
    cases nameB d <;> rfl
  have z4 : L_ref7_shape_18_4_0 (0, pg, pa, pm, pt) = bif pm.all nameB then some (.inl (pg, pa, pm, pt)) else some (.inr (false, pg, pa, pm, pt)) := (rg_ref7_shape_18_4_0 pg pa pt pm () hp.m).trans q4
  have z6 : L_ref7_shape_18_6_0 (0, pg, pa, pm, pt) = bif pt.all thB then some (.inl (pg, pa, pm, pt)) else some (.inr (false, pg, pa, pm, pt)) := by
    unfold L_ref7_shape_18_6_0
    refine (iterO_range0 pt (fun i (_ : Unit) => (((i : Int), pg, pa, pm, pt) : X_ref7_shape_18_6_0)) (fun i _ d => bif thB d then some (.inl ()) else some (.inr (.inr (false, pg, pa, pm, pt)))) (fun _ => some (.inl (pg, pa, pm, pt))) ?_ ?_ () (by unfold FUEL; have := hp.t; simp only at this; omega)).trans ?_
    · intro i _ d hi hd
      have ht := hp.ts d (List.mem_of_getElem? hd)
      have hlen := hp.t
      have e1 : decide ((i : Int) < (pt.length : Int)) = true := decide_eq_true (by omega)
      have e2 : decide (0 ≤ (i : Int)) = true := decide_eq_true (by omega)
      have e3 : Int.toNat (i : Int) = i := Int.toNat_natCast i
      have e4 := wrap_next hi (Nat.le_of_lt hlen)
      obtain ⟨tn, tl, tb⟩ := d
      obtain ⟨_, q'⟩ := rangeO_bad (f := fun k _ d => bd_ref7_shape_18_8_0 (i : Int) pg pa pm pt tn tb tl k d) (fin := fun _ => fn_ref7_shape_18_8_0 (i : Int) pg pa pm pt tn tb tl) (p := nameB) (o := fun _ => .inr (false, (i : Int), pg, pa, pm, pt)) tl 0 fun j d hd => by
        unfold bd_ref7_shape_18_8_0
        simp only [G_ref7_name, n_ref7_name d (ht.ln d (List.mem_of_getElem? hd)), optC_some]
        cases nameB d <;> rfl
      have z' : L_ref7_shape_18_8_0 ((i : Int), 0, pg, pa, pm, pt, tn, tl, tb) = bif tl.all nameB then some (.inl ((i : Int), pg, pa, pm, pt)) else some (.inr (false, (i : Int), pg, pa, pm, pt)) := (rg_ref7_shape_18_8_0 (i : Int) pg pa pm pt tn tb tl () ht.l).trans q'
      show st_ref7_shape_18_6_0 (i : Int) pg pa pm pt = _
      unfold st_ref7_shape_18_6_0 thB
      simp only [e1, e2, e3, hd, cond_true, optC_some, G_ref7_name, n_ref7_name tn ht.n, n_ref_stmts tb ht.b ht.bs, z']
      cases nameB tn
      · rfl
      · cases tb.all smB
        · cases tl.all nameB <;> rfl
        · cases tl.all nameB
          · rfl
          · simp only [Bool.not_true, cond_false, cond_true, optC_some, Sum.elim_inl, e4]; rfl
    · intro _
      show st_ref7_shape_18_6_0 (pt.length : Int) pg pa pm pt = _
      unfold st_ref7_shape_18_6_0
      rw [show decide ((pt.length : Int) < (pt.length : Int)) = false from decide_eq_false (by omega)]
      rfl
    · obtain ⟨_, q⟩ := rangeO_bad (Y := X_ref7_shape_18_6_0_0 ⊕ X_ref7_shape_18_6_0_1) (f := fun i (_ : Unit) d => bif thB d then some (.inl ()) else some (.inr (.inr (false, pg, pa, pm, pt)))) (fin := fun _ => some (.inl (pg, pa, pm, pt))) (p := thB) (o := fun _ => .inr (false, pg, pa, pm, pt)) pt 0 fun j d hd => rfl
      exact q
  unfold g_ref7_shape formB
  simp only [z1]
  cases pg.all glB
  · simp only [cond_false, optC_some, Sum.elim_inr, Bool.false_and, Bool.and_false]
  simp only [cond_true, optC_some, Sum.elim_inl, z2, Bool.true_and]
  cases pa.all arB
  · simp only [cond_false, optC_some, Sum.elim_inr, Bool.false_and, Bool.and_false]
  simp only [cond_true, optC_some, Sum.elim_inl, z4, Bool.true_and]
  cases pm.all nameB
  · simp only [cond_false, optC_some, Sum.elim_inr, Bool.false_and, Bool.and_false]
  simp only [cond_true, optC_some, Sum.elim_inl, z6, Bool.true_and]
  cases pt.all thB
  · simp only [cond_false, optC_some, Sum.elim_inr, Bool.and_false]
  · simp only [cond_true, optC_some, Sum.elim_inl, Bool.and_true]
end Go.Proofs.YtmjbedjnojcmfaaDoor.Ex

namespace Go.Proofs.YtmjbedjnojcmfaaDoor.Ex
open Go.Proofs Go.Proofs.YtmjbedjnojcmfaaDoor
set_option maxRecDepth 100000
set_option maxHeartbeats 2000000
set_option linter.unusedVariables false
set_option linter.unusedSimpArgs false
def ash_check_isTwice : List Sh := [.dat (.sl .str)]
def kp_check_isTwice_32_0 : Nat → List Nat := fun c => bif c.beq 0 then [0, 5, 6, 7] else [2]
noncomputable def sp_check_isTwice : List Con := [⟨42, con_check_place, snd_check_place⟩]
def s_check_isTwice_32_0_0 : StS := ⟨[(0, .sl .str), (5, .sl .str), (6, .int .i64), (7, .int .i64)], [], 0⟩
def x_check_isTwice_32_0_0_0 : StS := ⟨[(2, .undef)], [], 0⟩
def x_check_isTwice_32_0_0_1 : StS := ⟨[(2, .bool)], [], 0⟩
abbrev X_check_isTwice_32_0_0 := ((List ByteArray) × (List ByteArray) × Int × Int)
def fl_check_isTwice_32_0_0 (d : StD s_check_isTwice_32_0_0) : X_check_isTwice_32_0_0 := (d.1.1, d.1.2.1, d.1.2.2.1, d.1.2.2.2.1)
def un_check_isTwice_32_0_0 (x : X_check_isTwice_32_0_0) : StD s_check_isTwice_32_0_0 := ((x.1, x.2.1, x.2.2.1, x.2.2.2, ()), ())
abbrev X_check_isTwice_32_0_0_0 := Unit
def fl_check_isTwice_32_0_0_0 (d : StD x_check_isTwice_32_0_0_0) : X_check_isTwice_32_0_0_0 := ()
def un_check_isTwice_32_0_0_0 (x : X_check_isTwice_32_0_0_0) : StD x_check_isTwice_32_0_0_0 := (((), ()), ())
abbrev X_check_isTwice_32_0_0_1 := Bool
def fl_check_isTwice_32_0_0_1 (d : StD x_check_isTwice_32_0_0_1) : X_check_isTwice_32_0_0_1 := (d.1.1)
def un_check_isTwice_32_0_0_1 (x : X_check_isTwice_32_0_0_1) : StD x_check_isTwice_32_0_0_1 := ((x, ()), ())
noncomputable def st_check_isTwice_32_0_0 (s0 : (List ByteArray)) (s5 : (List ByteArray)) (s6 : Int) (s7 : Int) : Option (((List ByteArray) × (List ByteArray) × Int × Int) ⊕ (Unit ⊕ Bool)) :=
  bif decide (s7 < s6) then
 bif decide (0 ≤ s7) then
 optC s5[s7.toNat]? none fun d6 ↦
 bif decide ((0 : Int) ≤ 0 ∧ 0 ≤ s7 ∧ s7 ≤ (↑s0.length : Int)) then
 optC (G_check_place (d6, List.drop (Int.toNat (0 : Int)) (List.take s7.toNat s0), ())) none fun d7 ↦
 bif decide (d7 ≥ 0) then some (Sum.inr (Sum.inr true)) else some (Sum.inl (s0, s5, s6, Go.IntKind.i64.wrap (s7 + 1)))
 else none
 else none
 else some (Sum.inr (Sum.inl PUnit.unit))
noncomputable def sx_check_isTwice_32_0_0 (x : X_check_isTwice_32_0_0) : Option (X_check_isTwice_32_0_0 ⊕ (X_check_isTwice_32_0_0_0 ⊕ X_check_isTwice_32_0_0_1)) := st_check_isTwice_32_0_0 x.1 x.2.1 x.2.2.1 x.2.2.2
theorem rn_check_isTwice_32_0_0 (x : X_check_isTwice_32_0_0) : rdX (cxU sp_check_isTwice [] 40 1048576) keeps 8 ⟨32, 19, keeps 32, 0⟩ 0 (bodyX 32 0) 0 kp_check_isTwice_32_0 (sT s_check_isTwice_32_0_0 (un_check_isTwice_32_0_0 x)) (sH s_check_isTwice_32_0_0 (un_check_isTwice_32_0_0 x)) (rdO (fun T h => (rdS s_check_isTwice_32_0_0 T h).map fl_check_isTwice_32_0_0) (getOr (getE 2 x_check_isTwice_32_0_0_0 fl_check_isTwice_32_0_0_0) (getE 1 x_check_isTwice_32_0_0_1 fl_check_isTwice_32_0_0_1))) = sx_check_isTwice_32_0_0 x := by kernel_rfl
noncomputable def L_check_isTwice_32_0_0 (x : X_check_isTwice_32_0_0) : Option (X_check_isTwice_32_0_0_0 ⊕ X_check_isTwice_32_0_0_1) := iterO (fun x => st_check_isTwice_32_0_0 x.1 x.2.1 x.2.2.1 x.2.2.2) FUEL x
noncomputable def q_check_isTwice_32_0 : Nat → Tm → Prog (Nat × Tm) := (varP 0 (fun T h => (rdS s_check_isTwice_32_0_0 T h).map fl_check_isTwice_32_0_0) L_check_isTwice_32_0_0 (fun y => .alt y (altE 2 x_check_isTwice_32_0_0_0 un_check_isTwice_32_0_0_0) (altE 1 x_check_isTwice_32_0_0_1 un_check_isTwice_32_0_0_1)) (fun _ _ => .fail))
noncomputable def lc_check_isTwice_32_0 : Lpc := ⟨32, 0, 19, (fun base T => .norm base (kp_check_isTwice_32_0 0) T (q_check_isTwice_32_0 base)), by kernel_rfl, by kernel_rfl, (loopU sp_check_isTwice [] 40 1048576 8 (keep := kp_check_isTwice_32_0) (q := q_check_isTwice_32_0) (by kernel_rfl) (varX_ok (s := s_check_isTwice_32_0_0) (un := un_check_isTwice_32_0_0) (by rfl) (fun _ => rfl) (getOr_ok (getE_ok (s := x_check_isTwice_32_0_0_0) (un := un_check_isTwice_32_0_0_0) (by rfl) (fun _ => rfl)) (getE_ok (s := x_check_isTwice_32_0_0_1) (un := un_check_isTwice_32_0_0_1) (by rfl) (fun _ => rfl))) (step := sx_check_isTwice_32_0_0) rn_check_isTwice_32_0_0 (fun _ _ e => ⟨_, e⟩) (altOr_ok (altE_ok 2 x_check_isTwice_32_0_0_0 un_check_isTwice_32_0_0_0) (altE_ok 1 x_check_isTwice_32_0_0_1 un_check_isTwice_32_0_0_1)) (VarOk.fail _ _)))⟩
noncomputable def g_check_isTwice (a0 : (List ByteArray)) : Option Bool :=
  optC (L_check_isTwice_32_0_0 (a0, a0, (↑a0.length : Int), 0)) none fun d3 ↦ Sum.elim (fun e4 ↦ some false) (fun e4 ↦ some e4) d3
theorem raw_check_isTwice (a0 : (List ByteArray)) : evGX (cxU sp_check_isTwice [lc_check_isTwice_32_0] 40 1048576) keeps 8 32 ash_check_isTwice (.dat .bool) ((a0, ()) : ((List ByteArray) × Unit)) = g_check_isTwice a0 := by kernel_rfl
noncomputable def G_check_isTwice (x : ((List ByteArray) × Unit)) : Option Bool := g_check_isTwice x.1
noncomputable def con_check_isTwice : List AV → Prog AV := conP false ash_check_isTwice (.dat .bool) G_check_isTwice
theorem snd_check_isTwice : SoundA Tryd.prog 32 con_check_isTwice := conP_sound (calU sp_check_isTwice [lc_check_isTwice_32_0] 40 1048576 8 32) false (by rfl) (by rfl) (fun x r e => (evGX_eq _ _ _ _ _ _ _).trans ((raw_check_isTwice x.1).trans e)) (.inr fun _ => rfl)
end Go.Proofs.YtmjbedjnojcmfaaDoor.Ex

namespace Go.Proofs.YtmjbedjnojcmfaaDoor.Ex
set_option maxRecDepth 100000
set_option maxHeartbeats 2000000
set_option linter.unusedVariables false
set_option linter.unusedSimpArgs false
set_option linter.unusedSectionVars false
noncomputable def bd_check_isTwice_32_0_0 (s0 : (List ByteArray)) (s5 : (List ByteArray)) (i : Nat)  (d : ByteArray) : Option (Unit ⊕ (X_check_isTwice_32_0_0_0 ⊕ X_check_isTwice_32_0_0_1)) :=
  bif decide ((0 : Int) ≤ 0 ∧ 0 ≤ (i : Int) ∧ (i : Int) ≤ (↑s0.length : Int)) then
   optC (G_check_place (d, List.drop (Int.toNat (0 : Int)) (List.take i s0), ())) (none) fun d7 ↦
   bif decide (d7 ≥ 0) then
   some (Sum.inr (Sum.inr true))
 else some (Sum.inl ())
 else none
noncomputable def fn_check_isTwice_32_0_0 (s0 : (List ByteArray)) (s5 : (List ByteArray))  : Option (X_check_isTwice_32_0_0_0 ⊕ X_check_isTwice_32_0_0_1) :=
  some (Sum.inl PUnit.unit)
noncomputable abbrev rx_check_isTwice_32_0_0 (s0 : (List ByteArray)) (s5 : (List ByteArray)) (i : Nat) (s : Unit) : X_check_isTwice_32_0_0 := (s0, s5, (s5.length : Int), (i : Int))
noncomputable def rv_check_isTwice_32_0_0 (s0 : (List ByteArray)) (s5 : (List ByteArray)) (s : Unit) : Option (X_check_isTwice_32_0_0_0 ⊕ X_check_isTwice_32_0_0_1) := rangeO (fun i s d => bd_check_isTwice_32_0_0 s0 s5 i  d) (fun s => fn_check_isTwice_32_0_0 s0 s5 ) 0 s5 s
theorem rg_check_isTwice_32_0_0 (s0 : (List ByteArray)) (s5 : (List ByteArray)) (s : Unit) (hl : s5.length < 9223372036854775807) : L_check_isTwice_32_0_0 (s0, s5, (s5.length : Int), 0) = rv_check_isTwice_32_0_0 s0 s5 s := by
  unfold L_check_isTwice_32_0_0 rv_check_isTwice_32_0_0
  refine iterO_range0 s5 (rx_check_isTwice_32_0_0 s0 s5) _ _ ?_ ?_ s (by unfold FUEL; omega)
  · intro i s d hi hd
    have e1 : decide ((i : Int) < (s5.length : Int)) = true := decide_eq_true (by omega)
    have e2 : decide (0 ≤ (i : Int)) = true := decide_eq_true (by omega)
    have e3 : Int.toNat (i : Int) = i := Int.toNat_natCast i
    have e4 := wrap_next hi (Nat.le_of_lt hl)
    show st_check_isTwice_32_0_0 (s0) (s5) ((s5.length : Int)) ((i : Int)) = upd _ (bd_check_isTwice_32_0_0 s0 s5 i  d)
    unfold st_check_isTwice_32_0_0 bd_check_isTwice_32_0_0
    simp only [e1, e2, e3, e4, hd, cond_true, cond_false, optC_some, upd_cond, upd_optC, upd_elim, upd_inl, upd_inr, upd_none]
  · intro s
    have e1 : decide ((s5.length : Int) < (s5.length : Int)) = false := decide_eq_false (by omega)
    show st_check_isTwice_32_0_0 (s0) (s5) ((s5.length : Int)) ((s5.length : Int)) = _
    unfold st_check_isTwice_32_0_0 fn_check_isTwice_32_0_0
    rw [e1]
    rfl
end Go.Proofs.YtmjbedjnojcmfaaDoor.Ex

namespace Go.Proofs.YtmjbedjnojcmfaaDoor.Ex
open Go.Proofs Go.Proofs.YtmjbedjnojcmfaaDoor
noncomputable def cx_slices_Clone_string : Ctx := { tab := tab, spec := fun _ => none, inl := inl, lps := fun _ _ => none, fuel := 40 }
noncomputable def con_slices_Clone_string : List AV → Prog AV := cloneP 16 .str
theorem snd_slices_Clone_string : SoundA Tryd.prog 33 con_slices_Clone_string :=
  clone_sound (cx := cx_slices_Clone_string) (cal := fun _ _ => .fail) (i := ⟨(.sl .str), 24, 9, [], false⟩) (ie := ⟨.str, 16, 0, [], false⟩) (tabOk_of tab_ok) Tryd.func33 (inl_ok 33 Tryd.f33 rfl).2 (t := 24) (tb := 4) (s0 := "slices.go:355") (s1 := "slices.go:357") (s2 := "slices.go:358") (s3 := "slices.go:362") (by kernel_rfl) (by kernel_rfl) (by kernel_rfl) rfl rfl rfl rfl
end Go.Proofs.YtmjbedjnojcmfaaDoor.Ex

namespace Go.Proofs.YtmjbedjnojcmfaaDoor.Ex
open Go.Proofs Go.Proofs.YtmjbedjnojcmfaaDoor
set_option maxRecDepth 100000
set_option maxHeartbeats 2000000
set_option linter.unusedVariables false
set_option linter.unusedSimpArgs false
def ash_check_isAlone : List Sh := [.dat tPg]
def kp_check_isAlone_12_0 : Nat → List Nat := fun c => bif c.beq 0 then [1, 3, 4, 12, 13, 14] else [1, 3, 4]
def kp_check_isAlone_12_2 : Nat → List Nat := fun c => bif c.beq 0 then [1, 3, 4, 25, 26, 27] else [1, 3, 4]
def kp_check_isAlone_12_4 : Nat → List Nat := fun c => bif c.beq 0 then [3, 4, 42, 43, 44] else [2, 4]
noncomputable def sp_check_isAlone : List Con := [⟨33, con_slices_Clone_string, snd_slices_Clone_string⟩, ⟨32, con_check_isTwice, snd_check_isTwice⟩]
def s_check_isAlone_12_0_0 : StS := ⟨[(1, .ptr 0 0), (3, .row 1), (4, .nil), (12, .sl tGb), (13, .int .i64), (14, .int .i64)], [(0, .box [.sl tGb, .sl tGb, .sl .str, .sl tTh]), (1, .row .str)], 2⟩
def x_check_isAlone_12_0_0_0 : StS := ⟨[(1, .ptr 0 0), (3, .row 1), (4, .nil)], [(0, .box [.sl tGb, .sl tGb, .sl .str, .sl tTh]), (1, .row .str)], 2⟩
abbrev X_check_isAlone_12_0_0 := ((List Gb) × Int × Int × (List Gb) × (List Gb) × (List ByteArray) × (List Th) × (List ByteArray))
def fl_check_isAlone_12_0_0 (d : StD s_check_isAlone_12_0_0) : X_check_isAlone_12_0_0 := (d.1.2.2.2.1, d.1.2.2.2.2.1, d.1.2.2.2.2.2.1, d.2.1.1, d.2.1.2.1, d.2.1.2.2.1, d.2.1.2.2.2.1, d.2.2.1)
def un_check_isAlone_12_0_0 (x : X_check_isAlone_12_0_0) : StD s_check_isAlone_12_0_0 := (((), (), (), x.1, x.2.1, x.2.2.1, ()), ((x.2.2.2.1, x.2.2.2.2.1, x.2.2.2.2.2.1, x.2.2.2.2.2.2.1, ()), x.2.2.2.2.2.2.2, ()))
abbrev X_check_isAlone_12_0_0_0 := ((List Gb) × (List Gb) × (List ByteArray) × (List Th) × (List ByteArray))
def fl_check_isAlone_12_0_0_0 (d : StD x_check_isAlone_12_0_0_0) : X_check_isAlone_12_0_0_0 := (d.2.1.1, d.2.1.2.1, d.2.1.2.2.1, d.2.1.2.2.2.1, d.2.2.1)
def un_check_isAlone_12_0_0_0 (x : X_check_isAlone_12_0_0_0) : StD x_check_isAlone_12_0_0_0 := (((), (), (), ()), ((x.1, x.2.1, x.2.2.1, x.2.2.2.1, ()), x.2.2.2.2, ()))
noncomputable def st_check_isAlone_12_0_0 (s12 : (List Gb)) (s13 : Int) (s14 : Int) (b0 : (List Gb)) (b0_1 : (List Gb)) (b0_2 : (List ByteArray)) (b0_3 : (List Th)) (b1 : (List ByteArray)) : Option (((List Gb) × Int × Int × (List Gb) × (List Gb) × (List ByteArray) × (List Th) × (List ByteArray)) ⊕ ((List Gb) × (List Gb) × (List ByteArray) × (List Th) × (List ByteArray))) :=
  bif decide (s14 < s13) then
 bif decide (0 ≤ s14) then
 optC s12[s14.toNat]? none fun d12 ↦
 bif decide ((b1.length + [d12.1].length + 1) * 16 ≤ lim) then some (Sum.inl (s12, s13, Go.IntKind.i64.wrap (s14 + 1), b0, b0_1, b0_2, b0_3, b1 ++ [d12.1]))
 else none
 else none
 else some (Sum.inr (b0, b0_1, b0_2, b0_3, b1))
noncomputable def sx_check_isAlone_12_0_0 (x : X_check_isAlone_12_0_0) : Option (X_check_isAlone_12_0_0 ⊕ X_check_isAlone_12_0_0_0) := st_check_isAlone_12_0_0 x.1 x.2.1 x.2.2.1 x.2.2.2.1 x.2.2.2.2.1 x.2.2.2.2.2.1 x.2.2.2.2.2.2.1 x.2.2.2.2.2.2.2
theorem rn_check_isAlone_12_0_0 (x : X_check_isAlone_12_0_0) : rdX (cxU sp_check_isAlone [] 40 1048576) keeps 8 ⟨12, 63, keeps 12, 0⟩ 0 (bodyX 12 0) 0 kp_check_isAlone_12_0 (sT s_check_isAlone_12_0_0 (un_check_isAlone_12_0_0 x)) (sH s_check_isAlone_12_0_0 (un_check_isAlone_12_0_0 x)) (rdO (fun T h => (rdS s_check_isAlone_12_0_0 T h).map fl_check_isAlone_12_0_0) (getE 2 x_check_isAlone_12_0_0_0 fl_check_isAlone_12_0_0_0)) = sx_check_isAlone_12_0_0 x := by kernel_rfl
noncomputable def L_check_isAlone_12_0_0 (x : X_check_isAlone_12_0_0) : Option X_check_isAlone_12_0_0_0 := iterO (fun x => st_check_isAlone_12_0_0 x.1 x.2.1 x.2.2.1 x.2.2.2.1 x.2.2.2.2.1 x.2.2.2.2.2.1 x.2.2.2.2.2.2.1 x.2.2.2.2.2.2.2) FUEL x
noncomputable def q_check_isAlone_12_0 : Nat → Tm → Prog (Nat × Tm) := (varP 0 (fun T h => (rdS s_check_isAlone_12_0_0 T h).map fl_check_isAlone_12_0_0) L_check_isAlone_12_0_0 (altE 2 x_check_isAlone_12_0_0_0 un_check_isAlone_12_0_0_0) (fun _ _ => .fail))
noncomputable def lc_check_isAlone_12_0 : Lpc := ⟨12, 0, 63, (ownP [] [(3, .str)] (kp_check_isAlone_12_0 0) (fun base T => .norm base (kp_check_isAlone_12_0 0) T (q_check_isAlone_12_0 base))), by kernel_rfl, by kernel_rfl, (own_sound (loopU sp_check_isAlone [] 40 1048576 8 (keep := kp_check_isAlone_12_0) (q := q_check_isAlone_12_0) (by kernel_rfl) (varX_ok (s := s_check_isAlone_12_0_0) (un := un_check_isAlone_12_0_0) (by rfl) (fun _ => rfl) (getE_ok (s := x_check_isAlone_12_0_0_0) (un := un_check_isAlone_12_0_0_0) (by rfl) (fun _ => rfl)) (step := sx_check_isAlone_12_0_0) rn_check_isAlone_12_0_0 (fun _ _ e => ⟨_, e⟩) (altE_ok 2 x_check_isAlone_12_0_0_0 un_check_isAlone_12_0_0_0) (VarOk.fail _ _))))⟩
noncomputable abbrev cx_check_isAlone_12_2 := cxU sp_check_isAlone [lc_check_isAlone_12_0] 40 1048576
def s_check_isAlone_12_2_0 : StS := ⟨[(1, .ptr 0 0), (3, .row 1), (4, .nil), (25, .sl tGb), (26, .int .i64), (27, .int .i64)], [(0, .box [.sl tGb, .sl tGb, .sl .str, .sl tTh]), (1, .row .str)], 2⟩
def x_check_isAlone_12_2_0_0 : StS := ⟨[(1, .ptr 0 0), (3, .row 1), (4, .nil)], [(0, .box [.sl tGb, .sl tGb, .sl .str, .sl tTh]), (1, .row .str)], 2⟩
abbrev X_check_isAlone_12_2_0 := ((List Gb) × Int × Int × (List Gb) × (List Gb) × (List ByteArray) × (List Th) × (List ByteArray))
def fl_check_isAlone_12_2_0 (d : StD s_check_isAlone_12_2_0) : X_check_isAlone_12_2_0 := (d.1.2.2.2.1, d.1.2.2.2.2.1, d.1.2.2.2.2.2.1, d.2.1.1, d.2.1.2.1, d.2.1.2.2.1, d.2.1.2.2.2.1, d.2.2.1)
def un_check_isAlone_12_2_0 (x : X_check_isAlone_12_2_0) : StD s_check_isAlone_12_2_0 := (((), (), (), x.1, x.2.1, x.2.2.1, ()), ((x.2.2.2.1, x.2.2.2.2.1, x.2.2.2.2.2.1, x.2.2.2.2.2.2.1, ()), x.2.2.2.2.2.2.2, ()))
abbrev X_check_isAlone_12_2_0_0 := ((List Gb) × (List Gb) × (List ByteArray) × (List Th) × (List ByteArray))
def fl_check_isAlone_12_2_0_0 (d : StD x_check_isAlone_12_2_0_0) : X_check_isAlone_12_2_0_0 := (d.2.1.1, d.2.1.2.1, d.2.1.2.2.1, d.2.1.2.2.2.1, d.2.2.1)
def un_check_isAlone_12_2_0_0 (x : X_check_isAlone_12_2_0_0) : StD x_check_isAlone_12_2_0_0 := (((), (), (), ()), ((x.1, x.2.1, x.2.2.1, x.2.2.2.1, ()), x.2.2.2.2, ()))
noncomputable def st_check_isAlone_12_2_0 (s25 : (List Gb)) (s26 : Int) (s27 : Int) (b0 : (List Gb)) (b0_1 : (List Gb)) (b0_2 : (List ByteArray)) (b0_3 : (List Th)) (b1 : (List ByteArray)) : Option (((List Gb) × Int × Int × (List Gb) × (List Gb) × (List ByteArray) × (List Th) × (List ByteArray)) ⊕ ((List Gb) × (List Gb) × (List ByteArray) × (List Th) × (List ByteArray))) :=
  bif decide (s27 < s26) then
 bif decide (0 ≤ s27) then
 optC s25[s27.toNat]? none fun d12 ↦
 bif decide ((b1.length + [d12.1].length + 1) * 16 ≤ lim) then some (Sum.inl (s25, s26, Go.IntKind.i64.wrap (s27 + 1), b0, b0_1, b0_2, b0_3, b1 ++ [d12.1]))
 else none
 else none
 else some (Sum.inr (b0, b0_1, b0_2, b0_3, b1))
noncomputable def sx_check_isAlone_12_2_0 (x : X_check_isAlone_12_2_0) : Option (X_check_isAlone_12_2_0 ⊕ X_check_isAlone_12_2_0_0) := st_check_isAlone_12_2_0 x.1 x.2.1 x.2.2.1 x.2.2.2.1 x.2.2.2.2.1 x.2.2.2.2.2.1 x.2.2.2.2.2.2.1 x.2.2.2.2.2.2.2
theorem rn_check_isAlone_12_2_0 (x : X_check_isAlone_12_2_0) : rdX cx_check_isAlone_12_2 keeps 8 ⟨12, 63, keeps 12, 0⟩ 2 (bodyX 12 2) 0 kp_check_isAlone_12_2 (sT s_check_isAlone_12_2_0 (un_check_isAlone_12_2_0 x)) (sH s_check_isAlone_12_2_0 (un_check_isAlone_12_2_0 x)) (rdO (fun T h => (rdS s_check_isAlone_12_2_0 T h).map fl_check_isAlone_12_2_0) (getE 4 x_check_isAlone_12_2_0_0 fl_check_isAlone_12_2_0_0)) = sx_check_isAlone_12_2_0 x := by kernel_rfl
noncomputable def L_check_isAlone_12_2_0 (x : X_check_isAlone_12_2_0) : Option X_check_isAlone_12_2_0_0 := iterO (fun x => st_check_isAlone_12_2_0 x.1 x.2.1 x.2.2.1 x.2.2.2.1 x.2.2.2.2.1 x.2.2.2.2.2.1 x.2.2.2.2.2.2.1 x.2.2.2.2.2.2.2) FUEL x
noncomputable def q_check_isAlone_12_2 : Nat → Tm → Prog (Nat × Tm) := (varP 0 (fun T h => (rdS s_check_isAlone_12_2_0 T h).map fl_check_isAlone_12_2_0) L_check_isAlone_12_2_0 (altE 4 x_check_isAlone_12_2_0_0 un_check_isAlone_12_2_0_0) (fun _ _ => .fail))
noncomputable def lc_check_isAlone_12_2 : Lpc := ⟨12, 2, 63, (fun base T => .norm base (kp_check_isAlone_12_2 0) T (q_check_isAlone_12_2 base)), by kernel_rfl, by kernel_rfl, (loopU sp_check_isAlone [lc_check_isAlone_12_0] 40 1048576 8 (keep := kp_check_isAlone_12_2) (q := q_check_isAlone_12_2) (by kernel_rfl) (varX_ok (s := s_check_isAlone_12_2_0) (un := un_check_isAlone_12_2_0) (by rfl) (fun _ => rfl) (getE_ok (s := x_check_isAlone_12_2_0_0) (un := un_check_isAlone_12_2_0_0) (by rfl) (fun _ => rfl)) (step := sx_check_isAlone_12_2_0) rn_check_isAlone_12_2_0 (fun _ _ e => ⟨_, e⟩) (altE_ok 4 x_check_isAlone_12_2_0_0 un_check_isAlone_12_2_0_0) (VarOk.fail _ _)))⟩
noncomputable abbrev cx_check_isAlone_12_4 := cxU sp_check_isAlone [lc_check_isAlone_12_0, lc_check_isAlone_12_2] 40 1048576
def s_check_isAlone_12_4_0 : StS := ⟨[(3, .row 0), (4, .row 1), (42, .sl tTh), (43, .int .i64), (44, .int .i64)], [(0, .row .str), (1, .row .str)], 2⟩
def x_check_isAlone_12_4_0_0 : StS := ⟨[(2, .undef), (4, .row 0)], [(0, .row .str)], 1⟩
def x_check_isAlone_12_4_0_1 : StS := ⟨[(2, .bool), (4, .row 0)], [(0, .row .str)], 1⟩
abbrev X_check_isAlone_12_4_0 := ((List Th) × Int × Int × (List ByteArray) × (List ByteArray))
def fl_check_isAlone_12_4_0 (d : StD s_check_isAlone_12_4_0) : X_check_isAlone_12_4_0 := (d.1.2.2.1, d.1.2.2.2.1, d.1.2.2.2.2.1, d.2.1, d.2.2.1)
def un_check_isAlone_12_4_0 (x : X_check_isAlone_12_4_0) : StD s_check_isAlone_12_4_0 := (((), (), x.1, x.2.1, x.2.2.1, ()), (x.2.2.2.1, x.2.2.2.2, ()))
abbrev X_check_isAlone_12_4_0_0 := (List ByteArray)
def fl_check_isAlone_12_4_0_0 (d : StD x_check_isAlone_12_4_0_0) : X_check_isAlone_12_4_0_0 := (d.2.1)
def un_check_isAlone_12_4_0_0 (x : X_check_isAlone_12_4_0_0) : StD x_check_isAlone_12_4_0_0 := (((), (), ()), (x, ()))
abbrev X_check_isAlone_12_4_0_1 := (Bool × (List ByteArray))
def fl_check_isAlone_12_4_0_1 (d : StD x_check_isAlone_12_4_0_1) : X_check_isAlone_12_4_0_1 := (d.1.1, d.2.1)
def un_check_isAlone_12_4_0_1 (x : X_check_isAlone_12_4_0_1) : StD x_check_isAlone_12_4_0_1 := ((x.1, (), ()), (x.2, ()))
noncomputable def st_check_isAlone_12_4_0 (s42 : (List Th)) (s43 : Int) (s44 : Int) (b0 : (List ByteArray)) (b1 : (List ByteArray)) : Option (((List Th) × Int × Int × (List ByteArray) × (List ByteArray)) ⊕ ((List ByteArray) ⊕ (Bool × (List ByteArray)))) :=
  bif decide (s44 < s43) then
 bif decide (0 ≤ s44) then
 optC s42[s44.toNat]? none fun d9 ↦
 bif decide ((b1.length + [d9.1].length + 1) * 16 ≤ lim) then
 bif decide (((List.length (α := I) []) + b0.length + 1) * 16 ≤ lim) then
 bif decide ((([] ++ b0).length + List.length d9.2.1 + 1) * 16 ≤ lim) then
 optC (G_check_isTwice ([] ++ b0 ++ d9.2.1, ())) none fun d10 ↦
 bif d10 then some (Sum.inr (Sum.inr (false, b1 ++ [d9.1]))) else some (Sum.inl (s42, s43, Go.IntKind.i64.wrap (s44 + 1), b0, b1 ++ [d9.1]))
 else none
 else none
 else none
 else none
 else some (Sum.inr (Sum.inl b1))
noncomputable def sx_check_isAlone_12_4_0 (x : X_check_isAlone_12_4_0) : Option (X_check_isAlone_12_4_0 ⊕ (X_check_isAlone_12_4_0_0 ⊕ X_check_isAlone_12_4_0_1)) := st_check_isAlone_12_4_0 x.1 x.2.1 x.2.2.1 x.2.2.2.1 x.2.2.2.2
theorem rn_check_isAlone_12_4_0 (x : X_check_isAlone_12_4_0) : rdX cx_check_isAlone_12_4 keeps 8 ⟨12, 63, keeps 12, 0⟩ 4 (bodyX 12 4) 0 kp_check_isAlone_12_4 (sT s_check_isAlone_12_4_0 (un_check_isAlone_12_4_0 x)) (sH s_check_isAlone_12_4_0 (un_check_isAlone_12_4_0 x)) (rdO (fun T h => (rdS s_check_isAlone_12_4_0 T h).map fl_check_isAlone_12_4_0) (getOr (getE 6 x_check_isAlone_12_4_0_0 fl_check_isAlone_12_4_0_0) (getE 1 x_check_isAlone_12_4_0_1 fl_check_isAlone_12_4_0_1))) = sx_check_isAlone_12_4_0 x := by kernel_rfl
noncomputable def L_check_isAlone_12_4_0 (x : X_check_isAlone_12_4_0) : Option (X_check_isAlone_12_4_0_0 ⊕ X_check_isAlone_12_4_0_1) := iterO (fun x => st_check_isAlone_12_4_0 x.1 x.2.1 x.2.2.1 x.2.2.2.1 x.2.2.2.2) FUEL x
noncomputable def q_check_isAlone_12_4 : Nat → Tm → Prog (Nat × Tm) := (varP 0 (fun T h => (rdS s_check_isAlone_12_4_0 T h).map fl_check_isAlone_12_4_0) L_check_isAlone_12_4_0 (fun y => .alt y (altE 6 x_check_isAlone_12_4_0_0 un_check_isAlone_12_4_0_0) (altE 1 x_check_isAlone_12_4_0_1 un_check_isAlone_12_4_0_1)) (fun _ _ => .fail))
noncomputable def lc_check_isAlone_12_4 : Lpc := ⟨12, 4, 63, (ownP [] [(4, .str)] (kp_check_isAlone_12_4 0) (fun base T => .norm base (kp_check_isAlone_12_4 0) T (q_check_isAlone_12_4 base))), by kernel_rfl, by kernel_rfl, (own_sound (loopU sp_check_isAlone [lc_check_isAlone_12_0, lc_check_isAlone_12_2] 40 1048576 8 (keep := kp_check_isAlone_12_4) (q := q_check_isAlone_12_4) (by kernel_rfl) (varX_ok (s := s_check_isAlone_12_4_0) (un := un_check_isAlone_12_4_0) (by rfl) (fun _ => rfl) (getOr_ok (getE_ok (s := x_check_isAlone_12_4_0_0) (un := un_check_isAlone_12_4_0_0) (by rfl) (fun _ => rfl)) (getE_ok (s := x_check_isAlone_12_4_0_1) (un := un_check_isAlone_12_4_0_1) (by rfl) (fun _ => rfl))) (step := sx_check_isAlone_12_4_0) rn_check_isAlone_12_4_0 (fun _ _ e => ⟨_, e⟩) (altOr_ok (altE_ok 6 x_check_isAlone_12_4_0_0 un_check_isAlone_12_4_0_0) (altE_ok 1 x_check_isAlone_12_4_0_1 un_check_isAlone_12_4_0_1)) (VarOk.fail _ _))))⟩
noncomputable def g_check_isAlone (a0 : Pg) : Option Bool :=
  optC (L_check_isAlone_12_0_0 (a0.1, (↑(List.length a0.1) : Int), 0, a0.1, a0.2.1, a0.2.2.1, a0.2.2.2, [])) none fun d5 ↦
 optC (L_check_isAlone_12_2_0 (d5.2.1, (↑d5.2.1.length : Int), 0, d5)) none fun d6 ↦
 bif decide ((d6.2.2.2.2.length + d6.2.2.1.length + 1) * 16 ≤ lim) then
 optC (L_check_isAlone_12_4_0 (d6.2.2.2.1, (↑d6.2.2.2.1.length : Int), 0, d6.2.2.2.2 ++ d6.2.2.1, [])) none fun d7 ↦
 Sum.elim (fun e8 ↦ optC (G_check_isTwice (e8, ())) none fun d9 ↦ some !d9) (fun e8 ↦ some e8.1) d7
 else none
theorem raw_check_isAlone (a0 : Pg) : evGX (cxU sp_check_isAlone [lc_check_isAlone_12_0, lc_check_isAlone_12_2, lc_check_isAlone_12_4] 40 1048576) keeps 8 12 ash_check_isAlone (.dat .bool) ((a0, ()) : (Pg × Unit)) = g_check_isAlone a0 := by kernel_rfl
noncomputable def G_check_isAlone (x : (Pg × Unit)) : Option Bool := g_check_isAlone x.1
noncomputable def con_check_isAlone : List AV → Prog AV := conP false ash_check_isAlone (.dat .bool) G_check_isAlone
theorem snd_check_isAlone : SoundA Tryd.prog 12 con_check_isAlone := conP_sound (calU sp_check_isAlone [lc_check_isAlone_12_0, lc_check_isAlone_12_2, lc_check_isAlone_12_4] 40 1048576 8 12) false (by rfl) (by rfl) (fun x r e => (evGX_eq _ _ _ _ _ _ _).trans ((raw_check_isAlone x.1).trans e)) (.inr fun _ => rfl)
end Go.Proofs.YtmjbedjnojcmfaaDoor.Ex

namespace Go.Proofs.YtmjbedjnojcmfaaDoor.Ex
set_option maxRecDepth 100000
set_option maxHeartbeats 2000000
set_option linter.unusedVariables false
set_option linter.unusedSimpArgs false
set_option linter.unusedSectionVars false
noncomputable def bd_check_isAlone_12_0_0 (b0 : (List Gb)) (b0_1 : (List Gb)) (b0_2 : (List ByteArray)) (b0_3 : (List Th)) (s12 : (List Gb)) (i : Nat) (b1 : (List ByteArray)) (d : Gb) : Option ((List ByteArray) ⊕ X_check_isAlone_12_0_0_0) :=
  bif decide ((b1.length + [d.1].length + 1) * 16 ≤ lim) then
   some (Sum.inl (b1 ++ [d.1]))
 else none
noncomputable def fn_check_isAlone_12_0_0 (b0 : (List Gb)) (b0_1 : (List Gb)) (b0_2 : (List ByteArray)) (b0_3 : (List Th)) (s12 : (List Gb)) (b1 : (List ByteArray)) : Option X_check_isAlone_12_0_0_0 :=
  some (b0, b0_1, b0_2, b0_3, b1)
noncomputable abbrev rx_check_isAlone_12_0_0 (b0 : (List Gb)) (b0_1 : (List Gb)) (b0_2 : (List ByteArray)) (b0_3 : (List Th)) (s12 : (List Gb)) (i : Nat) (s : (List ByteArray)) : X_check_isAlone_12_0_0 := (s12, (s12.length : Int), (i : Int), b0, b0_1, b0_2, b0_3, s)
noncomputable def rv_check_isAlone_12_0_0 (b0 : (List Gb)) (b0_1 : (List Gb)) (b0_2 : (List ByteArray)) (b0_3 : (List Th)) (s12 : (List Gb)) (s : (List ByteArray)) : Option X_check_isAlone_12_0_0_0 := rangeO (fun i s d => bd_check_isAlone_12_0_0 b0 b0_1 b0_2 b0_3 s12 i s d) (fun s => fn_check_isAlone_12_0_0 b0 b0_1 b0_2 b0_3 s12 s) 0 s12 s
theorem rg_check_isAlone_12_0_0 (b0 : (List Gb)) (b0_1 : (List Gb)) (b0_2 : (List ByteArray)) (b0_3 : (List Th)) (s12 : (List Gb)) (s : (List ByteArray)) (hl : s12.length < 9223372036854775807) : L_check_isAlone_12_0_0 (s12, (s12.length : Int), 0, b0, b0_1, b0_2, b0_3, s) = rv_check_isAlone_12_0_0 b0 b0_1 b0_2 b0_3 s12 s := by
  unfold L_check_isAlone_12_0_0 rv_check_isAlone_12_0_0
  refine iterO_range0 s12 (rx_check_isAlone_12_0_0 b0 b0_1 b0_2 b0_3 s12) _ _ ?_ ?_ s (by unfold FUEL; omega)
  · intro i s d hi hd
    have e1 : decide ((i : Int) < (s12.length : Int)) = true := decide_eq_true (by omega)
    have e2 : decide (0 ≤ (i : Int)) = true := decide_eq_true (by omega)
    have e3 : Int.toNat (i : Int) = i := Int.toNat_natCast i
    have e4 := wrap_next hi (Nat.le_of_lt hl)
    show st_check_isAlone_12_0_0 (s12) ((s12.length : Int)) ((i : Int)) (b0) (b0_1) (b0_2) (b0_3) (s) = upd _ (bd_check_isAlone_12_0_0 b0 b0_1 b0_2 b0_3 s12 i s d)
    unfold st_check_isAlone_12_0_0 bd_check_isAlone_12_0_0
    simp only [e1, e2, e3, e4, hd, cond_true, cond_false, optC_some, upd_cond, upd_optC, upd_elim, upd_inl, upd_inr, upd_none]
  · intro s
    have e1 : decide ((s12.length : Int) < (s12.length : Int)) = false := decide_eq_false (by omega)
    show st_check_isAlone_12_0_0 (s12) ((s12.length : Int)) ((s12.length : Int)) (b0) (b0_1) (b0_2) (b0_3) (s) = _
    unfold st_check_isAlone_12_0_0 fn_check_isAlone_12_0_0
    rw [e1]
    rfl
noncomputable def bd_check_isAlone_12_2_0 (b0 : (List Gb)) (b0_1 : (List Gb)) (b0_2 : (List ByteArray)) (b0_3 : (List Th)) (s25 : (List Gb)) (i : Nat) (b1 : (List ByteArray)) (d : Gb) : Option ((List ByteArray) ⊕ X_check_isAlone_12_2_0_0) :=
  bif decide ((b1.length + [d.1].length + 1) * 16 ≤ lim) then
   some (Sum.inl (b1 ++ [d.1]))
 else none
noncomputable def fn_check_isAlone_12_2_0 (b0 : (List Gb)) (b0_1 : (List Gb)) (b0_2 : (List ByteArray)) (b0_3 : (List Th)) (s25 : (List Gb)) (b1 : (List ByteArray)) : Option X_check_isAlone_12_2_0_0 :=
  some (b0, b0_1, b0_2, b0_3, b1)
noncomputable abbrev rx_check_isAlone_12_2_0 (b0 : (List Gb)) (b0_1 : (List Gb)) (b0_2 : (List ByteArray)) (b0_3 : (List Th)) (s25 : (List Gb)) (i : Nat) (s : (List ByteArray)) : X_check_isAlone_12_2_0 := (s25, (s25.length : Int), (i : Int), b0, b0_1, b0_2, b0_3, s)
noncomputable def rv_check_isAlone_12_2_0 (b0 : (List Gb)) (b0_1 : (List Gb)) (b0_2 : (List ByteArray)) (b0_3 : (List Th)) (s25 : (List Gb)) (s : (List ByteArray)) : Option X_check_isAlone_12_2_0_0 := rangeO (fun i s d => bd_check_isAlone_12_2_0 b0 b0_1 b0_2 b0_3 s25 i s d) (fun s => fn_check_isAlone_12_2_0 b0 b0_1 b0_2 b0_3 s25 s) 0 s25 s
theorem rg_check_isAlone_12_2_0 (b0 : (List Gb)) (b0_1 : (List Gb)) (b0_2 : (List ByteArray)) (b0_3 : (List Th)) (s25 : (List Gb)) (s : (List ByteArray)) (hl : s25.length < 9223372036854775807) : L_check_isAlone_12_2_0 (s25, (s25.length : Int), 0, b0, b0_1, b0_2, b0_3, s) = rv_check_isAlone_12_2_0 b0 b0_1 b0_2 b0_3 s25 s := by
  unfold L_check_isAlone_12_2_0 rv_check_isAlone_12_2_0
  refine iterO_range0 s25 (rx_check_isAlone_12_2_0 b0 b0_1 b0_2 b0_3 s25) _ _ ?_ ?_ s (by unfold FUEL; omega)
  · intro i s d hi hd
    have e1 : decide ((i : Int) < (s25.length : Int)) = true := decide_eq_true (by omega)
    have e2 : decide (0 ≤ (i : Int)) = true := decide_eq_true (by omega)
    have e3 : Int.toNat (i : Int) = i := Int.toNat_natCast i
    have e4 := wrap_next hi (Nat.le_of_lt hl)
    show st_check_isAlone_12_2_0 (s25) ((s25.length : Int)) ((i : Int)) (b0) (b0_1) (b0_2) (b0_3) (s) = upd _ (bd_check_isAlone_12_2_0 b0 b0_1 b0_2 b0_3 s25 i s d)
    unfold st_check_isAlone_12_2_0 bd_check_isAlone_12_2_0
    simp only [e1, e2, e3, e4, hd, cond_true, cond_false, optC_some, upd_cond, upd_optC, upd_elim, upd_inl, upd_inr, upd_none]
  · intro s
    have e1 : decide ((s25.length : Int) < (s25.length : Int)) = false := decide_eq_false (by omega)
    show st_check_isAlone_12_2_0 (s25) ((s25.length : Int)) ((s25.length : Int)) (b0) (b0_1) (b0_2) (b0_3) (s) = _
    unfold st_check_isAlone_12_2_0 fn_check_isAlone_12_2_0
    rw [e1]
    rfl
noncomputable def bd_check_isAlone_12_4_0 (b0 : (List ByteArray)) (s42 : (List Th)) (i : Nat) (b1 : (List ByteArray)) (d : Th) : Option ((List ByteArray) ⊕ (X_check_isAlone_12_4_0_0 ⊕ X_check_isAlone_12_4_0_1)) :=
  bif decide ((b1.length + [d.1].length + 1) * 16 ≤ lim) then
   bif decide (((List.length (α := I) []) + b0.length + 1) * 16 ≤ lim) then
   bif decide ((([] ++ b0).length + List.length d.2.1 + 1) * 16 ≤ lim) then
   optC (G_check_isTwice ([] ++ b0 ++ d.2.1, ())) (none) fun d10 ↦
   bif d10 then
   some (Sum.inr (Sum.inr (false, b1 ++ [d.1])))
 else some (Sum.inl (b1 ++ [d.1]))
 else none
 else none
 else none
noncomputable def fn_check_isAlone_12_4_0 (b0 : (List ByteArray)) (s42 : (List Th)) (b1 : (List ByteArray)) : Option (X_check_isAlone_12_4_0_0 ⊕ X_check_isAlone_12_4_0_1) :=
  some (Sum.inl b1)
noncomputable abbrev rx_check_isAlone_12_4_0 (b0 : (List ByteArray)) (s42 : (List Th)) (i : Nat) (s : (List ByteArray)) : X_check_isAlone_12_4_0 := (s42, (s42.length : Int), (i : Int), b0, s)
noncomputable def rv_check_isAlone_12_4_0 (b0 : (List ByteArray)) (s42 : (List Th)) (s : (List ByteArray)) : Option (X_check_isAlone_12_4_0_0 ⊕ X_check_isAlone_12_4_0_1) := rangeO (fun i s d => bd_check_isAlone_12_4_0 b0 s42 i s d) (fun s => fn_check_isAlone_12_4_0 b0 s42 s) 0 s42 s
theorem rg_check_isAlone_12_4_0 (b0 : (List ByteArray)) (s42 : (List Th)) (s : (List ByteArray)) (hl : s42.length < 9223372036854775807) : L_check_isAlone_12_4_0 (s42, (s42.length : Int), 0, b0, s) = rv_check_isAlone_12_4_0 b0 s42 s := by
  unfold L_check_isAlone_12_4_0 rv_check_isAlone_12_4_0
  refine iterO_range0 s42 (rx_check_isAlone_12_4_0 b0 s42) _ _ ?_ ?_ s (by unfold FUEL; omega)
  · intro i s d hi hd
    have e1 : decide ((i : Int) < (s42.length : Int)) = true := decide_eq_true (by omega)
    have e2 : decide (0 ≤ (i : Int)) = true := decide_eq_true (by omega)
    have e3 : Int.toNat (i : Int) = i := Int.toNat_natCast i
    have e4 := wrap_next hi (Nat.le_of_lt hl)
    show st_check_isAlone_12_4_0 (s42) ((s42.length : Int)) ((i : Int)) (b0) (s) = upd _ (bd_check_isAlone_12_4_0 b0 s42 i s d)
    unfold st_check_isAlone_12_4_0 bd_check_isAlone_12_4_0
    simp only [e1, e2, e3, e4, hd, cond_true, cond_false, optC_some, upd_cond, upd_optC, upd_elim, upd_inl, upd_inr, upd_none]
  · intro s
    have e1 : decide ((s42.length : Int) < (s42.length : Int)) = false := decide_eq_false (by omega)
    show st_check_isAlone_12_4_0 (s42) ((s42.length : Int)) ((s42.length : Int)) (b0) (s) = _
    unfold st_check_isAlone_12_4_0 fn_check_isAlone_12_4_0
    rw [e1]
    rfl
end Go.Proofs.YtmjbedjnojcmfaaDoor.Ex

namespace Go.Proofs.YtmjbedjnojcmfaaDoor.Ex
open Go.Proofs Go.Proofs.YtmjbedjnojcmfaaDoor
set_option maxRecDepth 100000
set_option maxHeartbeats 2000000
set_option linter.unusedVariables false
set_option linter.unusedSimpArgs false
def ash_ref7_twice : List Sh := [.dat (.sl .str)]
def kp_ref7_twice_46_0 : Nat → List Nat := fun c => bif c.beq 0 then [0, 3] else [2]
noncomputable def sp_ref7_twice : List Con := [⟨74, con_ref7_place, snd_ref7_place⟩]
def s_ref7_twice_46_0_0 : StS := ⟨[(0, .sl .str), (3, .int .i64)], [], 0⟩
def x_ref7_twice_46_0_0_0 : StS := ⟨[(2, .undef)], [], 0⟩
def x_ref7_twice_46_0_0_1 : StS := ⟨[(2, .bool)], [], 0⟩
abbrev X_ref7_twice_46_0_0 := ((List ByteArray) × Int)
def fl_ref7_twice_46_0_0 (d : StD s_ref7_twice_46_0_0) : X_ref7_twice_46_0_0 := (d.1.1, d.1.2.1)
def un_ref7_twice_46_0_0 (x : X_ref7_twice_46_0_0) : StD s_ref7_twice_46_0_0 := ((x.1, x.2, ()), ())
abbrev X_ref7_twice_46_0_0_0 := Unit
def fl_ref7_twice_46_0_0_0 (d : StD x_ref7_twice_46_0_0_0) : X_ref7_twice_46_0_0_0 := ()
def un_ref7_twice_46_0_0_0 (x : X_ref7_twice_46_0_0_0) : StD x_ref7_twice_46_0_0_0 := (((), ()), ())
abbrev X_ref7_twice_46_0_0_1 := Bool
def fl_ref7_twice_46_0_0_1 (d : StD x_ref7_twice_46_0_0_1) : X_ref7_twice_46_0_0_1 := (d.1.1)
def un_ref7_twice_46_0_0_1 (x : X_ref7_twice_46_0_0_1) : StD x_ref7_twice_46_0_0_1 := ((x, ()), ())
noncomputable def st_ref7_twice_46_0_0 (s0 : (List ByteArray)) (s3 : Int) : Option (((List ByteArray) × Int) ⊕ (Unit ⊕ Bool)) :=
  bif decide (s3 < (↑s0.length : Int)) then
 bif decide ((0 : Int) ≤ 0 ∧ 0 ≤ s3 ∧ s3 ≤ (↑s0.length : Int)) then
 bif decide (0 ≤ s3) then
 optC s0[s3.toNat]? none fun d4 ↦
 optC (G_ref7_place (List.drop (Int.toNat (0 : Int)) (List.take s3.toNat s0), d4, ())) none fun d5 ↦
 bif decide (d5 ≥ 0) then some (Sum.inr (Sum.inr true)) else some (Sum.inl (s0, Go.IntKind.i64.wrap (s3 + 1)))
 else none
 else none
 else some (Sum.inr (Sum.inl PUnit.unit))
noncomputable def sx_ref7_twice_46_0_0 (x : X_ref7_twice_46_0_0) : Option (X_ref7_twice_46_0_0 ⊕ (X_ref7_twice_46_0_0_0 ⊕ X_ref7_twice_46_0_0_1)) := st_ref7_twice_46_0_0 x.1 x.2
theorem rn_ref7_twice_46_0_0 (x : X_ref7_twice_46_0_0) : rdX (cxU sp_ref7_twice [] 40 1048576) keeps 8 ⟨46, 19, keeps 46, 0⟩ 0 (bodyX 46 0) 0 kp_ref7_twice_46_0 (sT s_ref7_twice_46_0_0 (un_ref7_twice_46_0_0 x)) (sH s_ref7_twice_46_0_0 (un_ref7_twice_46_0_0 x)) (rdO (fun T h => (rdS s_ref7_twice_46_0_0 T h).map fl_ref7_twice_46_0_0) (getOr (getE 2 x_ref7_twice_46_0_0_0 fl_ref7_twice_46_0_0_0) (getE 1 x_ref7_twice_46_0_0_1 fl_ref7_twice_46_0_0_1))) = sx_ref7_twice_46_0_0 x := by kernel_rfl
noncomputable def L_ref7_twice_46_0_0 (x : X_ref7_twice_46_0_0) : Option (X_ref7_twice_46_0_0_0 ⊕ X_ref7_twice_46_0_0_1) := iterO (fun x => st_ref7_twice_46_0_0 x.1 x.2) FUEL x
noncomputable def q_ref7_twice_46_0 : Nat → Tm → Prog (Nat × Tm) := (varP 0 (fun T h => (rdS s_ref7_twice_46_0_0 T h).map fl_ref7_twice_46_0_0) L_ref7_twice_46_0_0 (fun y => .alt y (altE 2 x_ref7_twice_46_0_0_0 un_ref7_twice_46_0_0_0) (altE 1 x_ref7_twice_46_0_0_1 un_ref7_twice_46_0_0_1)) (fun _ _ => .fail))
noncomputable def lc_ref7_twice_46_0 : Lpc := ⟨46, 0, 19, (fun base T => .norm base (kp_ref7_twice_46_0 0) T (q_ref7_twice_46_0 base)), by kernel_rfl, by kernel_rfl, (loopU sp_ref7_twice [] 40 1048576 8 (keep := kp_ref7_twice_46_0) (q := q_ref7_twice_46_0) (by kernel_rfl) (varX_ok (s := s_ref7_twice_46_0_0) (un := un_ref7_twice_46_0_0) (by rfl) (fun _ => rfl) (getOr_ok (getE_ok (s := x_ref7_twice_46_0_0_0) (un := un_ref7_twice_46_0_0_0) (by rfl) (fun _ => rfl)) (getE_ok (s := x_ref7_twice_46_0_0_1) (un := un_ref7_twice_46_0_0_1) (by rfl) (fun _ => rfl))) (step := sx_ref7_twice_46_0_0) rn_ref7_twice_46_0_0 (fun _ _ e => ⟨_, e⟩) (altOr_ok (altE_ok 2 x_ref7_twice_46_0_0_0 un_ref7_twice_46_0_0_0) (altE_ok 1 x_ref7_twice_46_0_0_1 un_ref7_twice_46_0_0_1)) (VarOk.fail _ _)))⟩
noncomputable def g_ref7_twice (a0 : (List ByteArray)) : Option Bool :=
  optC (L_ref7_twice_46_0_0 (a0, 0)) none fun d3 ↦ Sum.elim (fun e4 ↦ some false) (fun e4 ↦ some e4) d3
theorem raw_ref7_twice (a0 : (List ByteArray)) : evGX (cxU sp_ref7_twice [lc_ref7_twice_46_0] 40 1048576) keeps 8 46 ash_ref7_twice (.dat .bool) ((a0, ()) : ((List ByteArray) × Unit)) = g_ref7_twice a0 := by kernel_rfl
noncomputable def G_ref7_twice (x : ((List ByteArray) × Unit)) : Option Bool := g_ref7_twice x.1
noncomputable def con_ref7_twice : List AV → Prog AV := conP false ash_ref7_twice (.dat .bool) G_ref7_twice
theorem snd_ref7_twice : SoundA Tryd.prog 46 con_ref7_twice := conP_sound (calU sp_ref7_twice [lc_ref7_twice_46_0] 40 1048576 8 46) false (by rfl) (by rfl) (fun x r e => (evGX_eq _ _ _ _ _ _ _).trans ((raw_ref7_twice x.1).trans e)) (.inr fun _ => rfl)
end Go.Proofs.YtmjbedjnojcmfaaDoor.Ex

namespace Go.Proofs.YtmjbedjnojcmfaaDoor.Ex
set_option maxRecDepth 100000
set_option maxHeartbeats 2000000
set_option linter.unusedVariables false
set_option linter.unusedSimpArgs false
set_option linter.unusedSectionVars false
noncomputable def bd_ref7_twice_46_0_0  (s0 : (List ByteArray)) (i : Nat)  (d : ByteArray) : Option (Unit ⊕ (X_ref7_twice_46_0_0_0 ⊕ X_ref7_twice_46_0_0_1)) :=
  bif decide ((0 : Int) ≤ 0 ∧ 0 ≤ (i : Int) ∧ (i : Int) ≤ (↑s0.length : Int)) then
   optC (G_ref7_place (List.drop (Int.toNat (0 : Int)) (List.take i s0), d, ())) (none) fun d5 ↦
   bif decide (d5 ≥ 0) then
   some (Sum.inr (Sum.inr true))
 else some (Sum.inl ())
 else none
noncomputable def fn_ref7_twice_46_0_0  (s0 : (List ByteArray))  : Option (X_ref7_twice_46_0_0_0 ⊕ X_ref7_twice_46_0_0_1) :=
  some (Sum.inl PUnit.unit)
noncomputable abbrev rx_ref7_twice_46_0_0  (s0 : (List ByteArray)) (i : Nat) (s : Unit) : X_ref7_twice_46_0_0 := (s0, (i : Int))
noncomputable def rv_ref7_twice_46_0_0  (s0 : (List ByteArray)) (s : Unit) : Option (X_ref7_twice_46_0_0_0 ⊕ X_ref7_twice_46_0_0_1) := rangeO (fun i s d => bd_ref7_twice_46_0_0  s0 i  d) (fun s => fn_ref7_twice_46_0_0  s0 ) 0 s0 s
theorem rg_ref7_twice_46_0_0  (s0 : (List ByteArray)) (s : Unit) (hl : s0.length < 9223372036854775807) : L_ref7_twice_46_0_0 (s0, 0) = rv_ref7_twice_46_0_0  s0 s := by
  unfold L_ref7_twice_46_0_0 rv_ref7_twice_46_0_0
  refine iterO_range0 s0 (rx_ref7_twice_46_0_0  s0) _ _ ?_ ?_ s (by unfold FUEL; omega)
  · intro i s d hi hd
    have e1 : decide ((i : Int) < (s0.length : Int)) = true := decide_eq_true (by omega)
    have e2 : decide (0 ≤ (i : Int)) = true := decide_eq_true (by omega)
    have e3 : Int.toNat (i : Int) = i := Int.toNat_natCast i
    have e4 := wrap_next hi (Nat.le_of_lt hl)
    show st_ref7_twice_46_0_0 (s0) ((i : Int)) = upd _ (bd_ref7_twice_46_0_0  s0 i  d)
    unfold st_ref7_twice_46_0_0 bd_ref7_twice_46_0_0
    simp only [e1, e2, e3, e4, hd, cond_true, cond_false, optC_some, upd_cond, upd_optC, upd_elim, upd_inl, upd_inr, upd_none]
  · intro s
    have e1 : decide ((s0.length : Int) < (s0.length : Int)) = false := decide_eq_false (by omega)
    show st_ref7_twice_46_0_0 (s0) ((s0.length : Int)) = _
    unfold st_ref7_twice_46_0_0 fn_ref7_twice_46_0_0
    rw [e1]
    rfl
end Go.Proofs.YtmjbedjnojcmfaaDoor.Ex

namespace Go.Proofs.YtmjbedjnojcmfaaDoor.Ex
open Go.Proofs Go.Proofs.YtmjbedjnojcmfaaDoor
set_option maxRecDepth 100000
set_option maxHeartbeats 2000000
set_option linter.unusedVariables false
set_option linter.unusedSimpArgs false
def ash_ref7_alone : List Sh := [.dat tPg]
def kp_ref7_alone_19_0 : Nat → List Nat := fun c => bif c.beq 0 then [1, 3, 4, 5] else [1, 3, 4]
def kp_ref7_alone_19_2 : Nat → List Nat := fun c => bif c.beq 0 then [1, 3, 4, 6] else [1, 3, 4]
def kp_ref7_alone_19_4 : Nat → List Nat := fun c => bif c.beq 0 then [1, 3, 4, 7] else [2, 3, 4]
noncomputable def sp_ref7_alone : List Con := [⟨46, con_ref7_twice, snd_ref7_twice⟩]
def s_ref7_alone_19_0_0 : StS := ⟨[(1, .ptr 0 0), (3, .row 1), (4, .nil), (5, .int .i64)], [(0, .box [.sl tGb, .sl tGb, .sl .str, .sl tTh]), (1, .row .str)], 2⟩
def x_ref7_alone_19_0_0_0 : StS := ⟨[(1, .ptr 0 0), (3, .row 1), (4, .nil)], [(0, .box [.sl tGb, .sl tGb, .sl .str, .sl tTh]), (1, .row .str)], 2⟩
abbrev X_ref7_alone_19_0_0 := (Int × (List Gb) × (List Gb) × (List ByteArray) × (List Th) × (List ByteArray))
def fl_ref7_alone_19_0_0 (d : StD s_ref7_alone_19_0_0) : X_ref7_alone_19_0_0 := (d.1.2.2.2.1, d.2.1.1, d.2.1.2.1, d.2.1.2.2.1, d.2.1.2.2.2.1, d.2.2.1)
def un_ref7_alone_19_0_0 (x : X_ref7_alone_19_0_0) : StD s_ref7_alone_19_0_0 := (((), (), (), x.1, ()), ((x.2.1, x.2.2.1, x.2.2.2.1, x.2.2.2.2.1, ()), x.2.2.2.2.2, ()))
abbrev X_ref7_alone_19_0_0_0 := ((List Gb) × (List Gb) × (List ByteArray) × (List Th) × (List ByteArray))
def fl_ref7_alone_19_0_0_0 (d : StD x_ref7_alone_19_0_0_0) : X_ref7_alone_19_0_0_0 := (d.2.1.1, d.2.1.2.1, d.2.1.2.2.1, d.2.1.2.2.2.1, d.2.2.1)
def un_ref7_alone_19_0_0_0 (x : X_ref7_alone_19_0_0_0) : StD x_ref7_alone_19_0_0_0 := (((), (), (), ()), ((x.1, x.2.1, x.2.2.1, x.2.2.2.1, ()), x.2.2.2.2, ()))
noncomputable def st_ref7_alone_19_0_0 (s5 : Int) (b0 : (List Gb)) (b0_1 : (List Gb)) (b0_2 : (List ByteArray)) (b0_3 : (List Th)) (b1 : (List ByteArray)) : Option ((Int × (List Gb) × (List Gb) × (List ByteArray) × (List Th) × (List ByteArray)) ⊕ ((List Gb) × (List Gb) × (List ByteArray) × (List Th) × (List ByteArray))) :=
  bif decide (s5 < (↑b0.length : Int)) then
 bif decide (0 ≤ s5) then
 optC b0[s5.toNat]? none fun d10 ↦
 bif decide ((b1.length + [d10.1].length + 1) * 16 ≤ lim) then some (Sum.inl (Go.IntKind.i64.wrap (s5 + 1), b0, b0_1, b0_2, b0_3, b1 ++ [d10.1])) else none
 else none
 else some (Sum.inr (b0, b0_1, b0_2, b0_3, b1))
noncomputable def sx_ref7_alone_19_0_0 (x : X_ref7_alone_19_0_0) : Option (X_ref7_alone_19_0_0 ⊕ X_ref7_alone_19_0_0_0) := st_ref7_alone_19_0_0 x.1 x.2.1 x.2.2.1 x.2.2.2.1 x.2.2.2.2.1 x.2.2.2.2.2
theorem rn_ref7_alone_19_0_0 (x : X_ref7_alone_19_0_0) : rdX (cxU sp_ref7_alone [] 40 1048576) keeps 8 ⟨19, 79, keeps 19, 0⟩ 0 (bodyX 19 0) 0 kp_ref7_alone_19_0 (sT s_ref7_alone_19_0_0 (un_ref7_alone_19_0_0 x)) (sH s_ref7_alone_19_0_0 (un_ref7_alone_19_0_0 x)) (rdO (fun T h => (rdS s_ref7_alone_19_0_0 T h).map fl_ref7_alone_19_0_0) (getE 2 x_ref7_alone_19_0_0_0 fl_ref7_alone_19_0_0_0)) = sx_ref7_alone_19_0_0 x := by kernel_rfl
noncomputable def L_ref7_alone_19_0_0 (x : X_ref7_alone_19_0_0) : Option X_ref7_alone_19_0_0_0 := iterO (fun x => st_ref7_alone_19_0_0 x.1 x.2.1 x.2.2.1 x.2.2.2.1 x.2.2.2.2.1 x.2.2.2.2.2) FUEL x
noncomputable def q_ref7_alone_19_0 : Nat → Tm → Prog (Nat × Tm) := (varP 0 (fun T h => (rdS s_ref7_alone_19_0_0 T h).map fl_ref7_alone_19_0_0) L_ref7_alone_19_0_0 (altE 2 x_ref7_alone_19_0_0_0 un_ref7_alone_19_0_0_0) (fun _ _ => .fail))
noncomputable def lc_ref7_alone_19_0 : Lpc := ⟨19, 0, 79, (ownP [] [(3, .str)] (kp_ref7_alone_19_0 0) (fun base T => .norm base (kp_ref7_alone_19_0 0) T (q_ref7_alone_19_0 base))), by kernel_rfl, by kernel_rfl, (own_sound (loopU sp_ref7_alone [] 40 1048576 8 (keep := kp_ref7_alone_19_0) (q := q_ref7_alone_19_0) (by kernel_rfl) (varX_ok (s := s_ref7_alone_19_0_0) (un := un_ref7_alone_19_0_0) (by rfl) (fun _ => rfl) (getE_ok (s := x_ref7_alone_19_0_0_0) (un := un_ref7_alone_19_0_0_0) (by rfl) (fun _ => rfl)) (step := sx_ref7_alone_19_0_0) rn_ref7_alone_19_0_0 (fun _ _ e => ⟨_, e⟩) (altE_ok 2 x_ref7_alone_19_0_0_0 un_ref7_alone_19_0_0_0) (VarOk.fail _ _))))⟩
noncomputable abbrev cx_ref7_alone_19_2 := cxU sp_ref7_alone [lc_ref7_alone_19_0] 40 1048576
def s_ref7_alone_19_2_0 : StS := ⟨[(1, .ptr 0 0), (3, .row 1), (4, .nil), (6, .int .i64)], [(0, .box [.sl tGb, .sl tGb, .sl .str, .sl tTh]), (1, .row .str)], 2⟩
def x_ref7_alone_19_2_0_0 : StS := ⟨[(1, .ptr 0 0), (3, .row 1), (4, .nil)], [(0, .box [.sl tGb, .sl tGb, .sl .str, .sl tTh]), (1, .row .str)], 2⟩
abbrev X_ref7_alone_19_2_0 := (Int × (List Gb) × (List Gb) × (List ByteArray) × (List Th) × (List ByteArray))
def fl_ref7_alone_19_2_0 (d : StD s_ref7_alone_19_2_0) : X_ref7_alone_19_2_0 := (d.1.2.2.2.1, d.2.1.1, d.2.1.2.1, d.2.1.2.2.1, d.2.1.2.2.2.1, d.2.2.1)
def un_ref7_alone_19_2_0 (x : X_ref7_alone_19_2_0) : StD s_ref7_alone_19_2_0 := (((), (), (), x.1, ()), ((x.2.1, x.2.2.1, x.2.2.2.1, x.2.2.2.2.1, ()), x.2.2.2.2.2, ()))
abbrev X_ref7_alone_19_2_0_0 := ((List Gb) × (List Gb) × (List ByteArray) × (List Th) × (List ByteArray))
def fl_ref7_alone_19_2_0_0 (d : StD x_ref7_alone_19_2_0_0) : X_ref7_alone_19_2_0_0 := (d.2.1.1, d.2.1.2.1, d.2.1.2.2.1, d.2.1.2.2.2.1, d.2.2.1)
def un_ref7_alone_19_2_0_0 (x : X_ref7_alone_19_2_0_0) : StD x_ref7_alone_19_2_0_0 := (((), (), (), ()), ((x.1, x.2.1, x.2.2.1, x.2.2.2.1, ()), x.2.2.2.2, ()))
noncomputable def st_ref7_alone_19_2_0 (s6 : Int) (b0 : (List Gb)) (b0_1 : (List Gb)) (b0_2 : (List ByteArray)) (b0_3 : (List Th)) (b1 : (List ByteArray)) : Option ((Int × (List Gb) × (List Gb) × (List ByteArray) × (List Th) × (List ByteArray)) ⊕ ((List Gb) × (List Gb) × (List ByteArray) × (List Th) × (List ByteArray))) :=
  bif decide (s6 < (↑b0_1.length : Int)) then
 bif decide (0 ≤ s6) then
 optC b0_1[s6.toNat]? none fun d10 ↦
 bif decide ((b1.length + [d10.1].length + 1) * 16 ≤ lim) then some (Sum.inl (Go.IntKind.i64.wrap (s6 + 1), b0, b0_1, b0_2, b0_3, b1 ++ [d10.1])) else none
 else none
 else some (Sum.inr (b0, b0_1, b0_2, b0_3, b1))
noncomputable def sx_ref7_alone_19_2_0 (x : X_ref7_alone_19_2_0) : Option (X_ref7_alone_19_2_0 ⊕ X_ref7_alone_19_2_0_0) := st_ref7_alone_19_2_0 x.1 x.2.1 x.2.2.1 x.2.2.2.1 x.2.2.2.2.1 x.2.2.2.2.2
theorem rn_ref7_alone_19_2_0 (x : X_ref7_alone_19_2_0) : rdX cx_ref7_alone_19_2 keeps 8 ⟨19, 79, keeps 19, 0⟩ 2 (bodyX 19 2) 0 kp_ref7_alone_19_2 (sT s_ref7_alone_19_2_0 (un_ref7_alone_19_2_0 x)) (sH s_ref7_alone_19_2_0 (un_ref7_alone_19_2_0 x)) (rdO (fun T h => (rdS s_ref7_alone_19_2_0 T h).map fl_ref7_alone_19_2_0) (getE 4 x_ref7_alone_19_2_0_0 fl_ref7_alone_19_2_0_0)) = sx_ref7_alone_19_2_0 x := by kernel_rfl
noncomputable def L_ref7_alone_19_2_0 (x : X_ref7_alone_19_2_0) : Option X_ref7_alone_19_2_0_0 := iterO (fun x => st_ref7_alone_19_2_0 x.1 x.2.1 x.2.2.1 x.2.2.2.1 x.2.2.2.2.1 x.2.2.2.2.2) FUEL x
noncomputable def q_ref7_alone_19_2 : Nat → Tm → Prog (Nat × Tm) := (varP 0 (fun T h => (rdS s_ref7_alone_19_2_0 T h).map fl_ref7_alone_19_2_0) L_ref7_alone_19_2_0 (altE 4 x_ref7_alone_19_2_0_0 un_ref7_alone_19_2_0_0) (fun _ _ => .fail))
noncomputable def lc_ref7_alone_19_2 : Lpc := ⟨19, 2, 79, (fun base T => .norm base (kp_ref7_alone_19_2 0) T (q_ref7_alone_19_2 base)), by kernel_rfl, by kernel_rfl, (loopU sp_ref7_alone [lc_ref7_alone_19_0] 40 1048576 8 (keep := kp_ref7_alone_19_2) (q := q_ref7_alone_19_2) (by kernel_rfl) (varX_ok (s := s_ref7_alone_19_2_0) (un := un_ref7_alone_19_2_0) (by rfl) (fun _ => rfl) (getE_ok (s := x_ref7_alone_19_2_0_0) (un := un_ref7_alone_19_2_0_0) (by rfl) (fun _ => rfl)) (step := sx_ref7_alone_19_2_0) rn_ref7_alone_19_2_0 (fun _ _ e => ⟨_, e⟩) (altE_ok 4 x_ref7_alone_19_2_0_0 un_ref7_alone_19_2_0_0) (VarOk.fail _ _)))⟩
noncomputable abbrev cx_ref7_alone_19_4 := cxU sp_ref7_alone [lc_ref7_alone_19_0, lc_ref7_alone_19_2] 40 1048576
def s_ref7_alone_19_4_0 : StS := ⟨[(1, .ptr 0 0), (3, .row 1), (4, .row 2), (7, .int .i64)], [(0, .box [.sl tGb, .sl tGb, .sl .str, .sl tTh]), (1, .row .str), (2, .row .str)], 3⟩
def x_ref7_alone_19_4_0_0 : StS := ⟨[(2, .undef), (3, .row 0), (4, .row 1)], [(0, .row .str), (1, .row .str)], 2⟩
def x_ref7_alone_19_4_0_1 : StS := ⟨[(2, .bool), (3, .row 0), (4, .row 1)], [(0, .row .str), (1, .row .str)], 2⟩
abbrev X_ref7_alone_19_4_0 := (Int × (List Gb) × (List Gb) × (List ByteArray) × (List Th) × (List ByteArray) × (List ByteArray))
def fl_ref7_alone_19_4_0 (d : StD s_ref7_alone_19_4_0) : X_ref7_alone_19_4_0 := (d.1.2.2.2.1, d.2.1.1, d.2.1.2.1, d.2.1.2.2.1, d.2.1.2.2.2.1, d.2.2.1, d.2.2.2.1)
def un_ref7_alone_19_4_0 (x : X_ref7_alone_19_4_0) : StD s_ref7_alone_19_4_0 := (((), (), (), x.1, ()), ((x.2.1, x.2.2.1, x.2.2.2.1, x.2.2.2.2.1, ()), x.2.2.2.2.2.1, x.2.2.2.2.2.2, ()))
abbrev X_ref7_alone_19_4_0_0 := ((List ByteArray) × (List ByteArray))
def fl_ref7_alone_19_4_0_0 (d : StD x_ref7_alone_19_4_0_0) : X_ref7_alone_19_4_0_0 := (d.2.1, d.2.2.1)
def un_ref7_alone_19_4_0_0 (x : X_ref7_alone_19_4_0_0) : StD x_ref7_alone_19_4_0_0 := (((), (), (), ()), (x.1, x.2, ()))
abbrev X_ref7_alone_19_4_0_1 := (Bool × (List ByteArray) × (List ByteArray))
def fl_ref7_alone_19_4_0_1 (d : StD x_ref7_alone_19_4_0_1) : X_ref7_alone_19_4_0_1 := (d.1.1, d.2.1, d.2.2.1)
def un_ref7_alone_19_4_0_1 (x : X_ref7_alone_19_4_0_1) : StD x_ref7_alone_19_4_0_1 := ((x.1, (), (), ()), (x.2.1, x.2.2, ()))
noncomputable def st_ref7_alone_19_4_0 (s7 : Int) (b0 : (List Gb)) (b0_1 : (List Gb)) (b0_2 : (List ByteArray)) (b0_3 : (List Th)) (b1 : (List ByteArray)) (b2 : (List ByteArray)) : Option ((Int × (List Gb) × (List Gb) × (List ByteArray) × (List Th) × (List ByteArray) × (List ByteArray)) ⊕ (((List ByteArray) × (List ByteArray)) ⊕ (Bool × (List ByteArray) × (List ByteArray)))) :=
  bif decide (s7 < (↑b0_3.length : Int)) then
 bif decide (0 ≤ s7) then
 optC b0_3[s7.toNat]? none fun d11 ↦
 bif decide ((b2.length + [d11.1].length + 1) * 16 ≤ lim) then
 bif decide (((List.length (α := I) []) + b1.length + 1) * 16 ≤ lim) then
 bif decide (0 ≤ s7) then
 optC b0_3[s7.toNat]? none fun d12 ↦
 bif decide ((([] ++ b1).length + List.length d12.2.1 + 1) * 16 ≤ lim) then
 optC (G_ref7_twice ([] ++ b1 ++ d12.2.1, ())) none fun d13 ↦
 bif d13 then some (Sum.inr (Sum.inr (false, b1, b2 ++ [d11.1]))) else some (Sum.inl (Go.IntKind.i64.wrap (s7 + 1), b0, b0_1, b0_2, b0_3, b1, b2 ++ [d11.1]))
 else none
 else none
 else none
 else none
 else none
 else some (Sum.inr (Sum.inl (b1, b2)))
noncomputable def sx_ref7_alone_19_4_0 (x : X_ref7_alone_19_4_0) : Option (X_ref7_alone_19_4_0 ⊕ (X_ref7_alone_19_4_0_0 ⊕ X_ref7_alone_19_4_0_1)) := st_ref7_alone_19_4_0 x.1 x.2.1 x.2.2.1 x.2.2.2.1 x.2.2.2.2.1 x.2.2.2.2.2.1 x.2.2.2.2.2.2
theorem rn_ref7_alone_19_4_0 (x : X_ref7_alone_19_4_0) : rdX cx_ref7_alone_19_4 keeps 8 ⟨19, 79, keeps 19, 0⟩ 4 (bodyX 19 4) 0 kp_ref7_alone_19_4 (sT s_ref7_alone_19_4_0 (un_ref7_alone_19_4_0 x)) (sH s_ref7_alone_19_4_0 (un_ref7_alone_19_4_0 x)) (rdO (fun T h => (rdS s_ref7_alone_19_4_0 T h).map fl_ref7_alone_19_4_0) (getOr (getE 6 x_ref7_alone_19_4_0_0 fl_ref7_alone_19_4_0_0) (getE 1 x_ref7_alone_19_4_0_1 fl_ref7_alone_19_4_0_1))) = sx_ref7_alone_19_4_0 x := by kernel_rfl
noncomputable def L_ref7_alone_19_4_0 (x : X_ref7_alone_19_4_0) : Option (X_ref7_alone_19_4_0_0 ⊕ X_ref7_alone_19_4_0_1) := iterO (fun x => st_ref7_alone_19_4_0 x.1 x.2.1 x.2.2.1 x.2.2.2.1 x.2.2.2.2.1 x.2.2.2.2.2.1 x.2.2.2.2.2.2) FUEL x
noncomputable def q_ref7_alone_19_4 : Nat → Tm → Prog (Nat × Tm) := (varP 0 (fun T h => (rdS s_ref7_alone_19_4_0 T h).map fl_ref7_alone_19_4_0) L_ref7_alone_19_4_0 (fun y => .alt y (altE 6 x_ref7_alone_19_4_0_0 un_ref7_alone_19_4_0_0) (altE 1 x_ref7_alone_19_4_0_1 un_ref7_alone_19_4_0_1)) (fun _ _ => .fail))
noncomputable def lc_ref7_alone_19_4 : Lpc := ⟨19, 4, 79, (ownP [] [(4, .str)] (kp_ref7_alone_19_4 0) (fun base T => .norm base (kp_ref7_alone_19_4 0) T (q_ref7_alone_19_4 base))), by kernel_rfl, by kernel_rfl, (own_sound (loopU sp_ref7_alone [lc_ref7_alone_19_0, lc_ref7_alone_19_2] 40 1048576 8 (keep := kp_ref7_alone_19_4) (q := q_ref7_alone_19_4) (by kernel_rfl) (varX_ok (s := s_ref7_alone_19_4_0) (un := un_ref7_alone_19_4_0) (by rfl) (fun _ => rfl) (getOr_ok (getE_ok (s := x_ref7_alone_19_4_0_0) (un := un_ref7_alone_19_4_0_0) (by rfl) (fun _ => rfl)) (getE_ok (s := x_ref7_alone_19_4_0_1) (un := un_ref7_alone_19_4_0_1) (by rfl) (fun _ => rfl))) (step := sx_ref7_alone_19_4_0) rn_ref7_alone_19_4_0 (fun _ _ e => ⟨_, e⟩) (altOr_ok (altE_ok 6 x_ref7_alone_19_4_0_0 un_ref7_alone_19_4_0_0) (altE_ok 1 x_ref7_alone_19_4_0_1 un_ref7_alone_19_4_0_1)) (VarOk.fail _ _))))⟩
noncomputable def g_ref7_alone (a0 : Pg) : Option Bool :=
  optC (L_ref7_alone_19_0_0 (0, a0.1, a0.2.1, a0.2.2.1, a0.2.2.2, [])) none fun d5 ↦
 optC (L_ref7_alone_19_2_0 (0, d5)) none fun d6 ↦
 bif decide ((d6.2.2.2.2.length + d6.2.2.1.length + 1) * 16 ≤ lim) then
 optC (L_ref7_alone_19_4_0 (0, d6.1, d6.2.1, d6.2.2.1, d6.2.2.2.1, d6.2.2.2.2 ++ d6.2.2.1, [])) none fun d7 ↦
 Sum.elim
 (fun e8 ↦
 optC (G_ref7_twice (e8.1, ())) none fun d9 ↦
 bif !d9 then optC (G_ref7_twice (e8.2, ())) none fun d10 ↦ some !d10 else some false)
 (fun e8 ↦ some e8.1) d7
 else none
theorem raw_ref7_alone (a0 : Pg) : evGX (cxU sp_ref7_alone [lc_ref7_alone_19_0, lc_ref7_alone_19_2, lc_ref7_alone_19_4] 40 1048576) keeps 8 19 ash_ref7_alone (.dat .bool) ((a0, ()) : (Pg × Unit)) = g_ref7_alone a0 := by kernel_rfl
noncomputable def G_ref7_alone (x : (Pg × Unit)) : Option Bool := g_ref7_alone x.1
noncomputable def con_ref7_alone : List AV → Prog AV := conP false ash_ref7_alone (.dat .bool) G_ref7_alone
theorem snd_ref7_alone : SoundA Tryd.prog 19 con_ref7_alone := conP_sound (calU sp_ref7_alone [lc_ref7_alone_19_0, lc_ref7_alone_19_2, lc_ref7_alone_19_4] 40 1048576 8 19) false (by rfl) (by rfl) (fun x r e => (evGX_eq _ _ _ _ _ _ _).trans ((raw_ref7_alone x.1).trans e)) (.inr fun _ => rfl)
end Go.Proofs.YtmjbedjnojcmfaaDoor.Ex

namespace Go.Proofs.YtmjbedjnojcmfaaDoor.Ex
set_option maxRecDepth 100000
set_option maxHeartbeats 2000000
set_option linter.unusedVariables false
set_option linter.unusedSimpArgs false
set_option linter.unusedSectionVars false
noncomputable def bd_ref7_alone_19_0_0 (b0_1 : (List Gb)) (b0_2 : (List ByteArray)) (b0_3 : (List Th)) (b0 : (List Gb)) (i : Nat) (b1 : (List ByteArray)) (d : Gb) : Option ((List ByteArray) ⊕ X_ref7_alone_19_0_0_0) :=
  bif decide ((b1.length + [d.1].length + 1) * 16 ≤ lim) then
   some (Sum.inl (b1 ++ [d.1]))
 else none
noncomputable def fn_ref7_alone_19_0_0 (b0_1 : (List Gb)) (b0_2 : (List ByteArray)) (b0_3 : (List Th)) (b0 : (List Gb)) (b1 : (List ByteArray)) : Option X_ref7_alone_19_0_0_0 :=
  some (b0, b0_1, b0_2, b0_3, b1)
noncomputable abbrev rx_ref7_alone_19_0_0 (b0_1 : (List Gb)) (b0_2 : (List ByteArray)) (b0_3 : (List Th)) (b0 : (List Gb)) (i : Nat) (s : (List ByteArray)) : X_ref7_alone_19_0_0 := ((i : Int), b0, b0_1, b0_2, b0_3, s)
noncomputable def rv_ref7_alone_19_0_0 (b0_1 : (List Gb)) (b0_2 : (List ByteArray)) (b0_3 : (List Th)) (b0 : (List Gb)) (s : (List ByteArray)) : Option X_ref7_alone_19_0_0_0 := rangeO (fun i s d => bd_ref7_alone_19_0_0 b0_1 b0_2 b0_3 b0 i s d) (fun s => fn_ref7_alone_19_0_0 b0_1 b0_2 b0_3 b0 s) 0 b0 s
theorem rg_ref7_alone_19_0_0 (b0_1 : (List Gb)) (b0_2 : (List ByteArray)) (b0_3 : (List Th)) (b0 : (List Gb)) (s : (List ByteArray)) (hl : b0.length < 9223372036854775807) : L_ref7_alone_19_0_0 (0, b0, b0_1, b0_2, b0_3, s) = rv_ref7_alone_19_0_0 b0_1 b0_2 b0_3 b0 s := by
  unfold L_ref7_alone_19_0_0 rv_ref7_alone_19_0_0
  refine iterO_range0 b0 (rx_ref7_alone_19_0_0 b0_1 b0_2 b0_3 b0) _ _ ?_ ?_ s (by unfold FUEL; omega)
  · intro i s d hi hd
    have e1 : decide ((i : Int) < (b0.length : Int)) = true := decide_eq_true (by omega)
    have e2 : decide (0 ≤ (i : Int)) = true := decide_eq_true (by omega)
    have e3 : Int.toNat (i : Int) = i := Int.toNat_natCast i
    have e4 := wrap_next hi (Nat.le_of_lt hl)
    show st_ref7_alone_19_0_0 ((i : Int)) (b0) (b0_1) (b0_2) (b0_3) (s) = upd _ (bd_ref7_alone_19_0_0 b0_1 b0_2 b0_3 b0 i s d)
    unfold st_ref7_alone_19_0_0 bd_ref7_alone_19_0_0
    simp only [e1, e2, e3, e4, hd, cond_true, cond_false, optC_some, upd_cond, upd_optC, upd_elim, upd_inl, upd_inr, upd_none]
  · intro s
    have e1 : decide ((b0.length : Int) < (b0.length : Int)) = false := decide_eq_false (by omega)
    show st_ref7_alone_19_0_0 ((b0.length : Int)) (b0) (b0_1) (b0_2) (b0_3) (s) = _
    unfold st_ref7_alone_19_0_0 fn_ref7_alone_19_0_0
    rw [e1]
    rfl
noncomputable def bd_ref7_alone_19_2_0 (b0 : (List Gb)) (b0_2 : (List ByteArray)) (b0_3 : (List Th)) (b0_1 : (List Gb)) (i : Nat) (b1 : (List ByteArray)) (d : Gb) : Option ((List ByteArray) ⊕ X_ref7_alone_19_2_0_0) :=
  bif decide ((b1.length + [d.1].length + 1) * 16 ≤ lim) then
   some (Sum.inl (b1 ++ [d.1]))
 else none
noncomputable def fn_ref7_alone_19_2_0 (b0 : (List Gb)) (b0_2 : (List ByteArray)) (b0_3 : (List Th)) (b0_1 : (List Gb)) (b1 : (List ByteArray)) : Option X_ref7_alone_19_2_0_0 :=
  some (b0, b0_1, b0_2, b0_3, b1)
noncomputable abbrev rx_ref7_alone_19_2_0 (b0 : (List Gb)) (b0_2 : (List ByteArray)) (b0_3 : (List Th)) (b0_1 : (List Gb)) (i : Nat) (s : (List ByteArray)) : X_ref7_alone_19_2_0 := ((i : Int), b0, b0_1, b0_2, b0_3, s)
noncomputable def rv_ref7_alone_19_2_0 (b0 : (List Gb)) (b0_2 : (List ByteArray)) (b0_3 : (List Th)) (b0_1 : (List Gb)) (s : (List ByteArray)) : Option X_ref7_alone_19_2_0_0 := rangeO (fun i s d => bd_ref7_alone_19_2_0 b0 b0_2 b0_3 b0_1 i s d) (fun s => fn_ref7_alone_19_2_0 b0 b0_2 b0_3 b0_1 s) 0 b0_1 s
theorem rg_ref7_alone_19_2_0 (b0 : (List Gb)) (b0_2 : (List ByteArray)) (b0_3 : (List Th)) (b0_1 : (List Gb)) (s : (List ByteArray)) (hl : b0_1.length < 9223372036854775807) : L_ref7_alone_19_2_0 (0, b0, b0_1, b0_2, b0_3, s) = rv_ref7_alone_19_2_0 b0 b0_2 b0_3 b0_1 s := by
  unfold L_ref7_alone_19_2_0 rv_ref7_alone_19_2_0
  refine iterO_range0 b0_1 (rx_ref7_alone_19_2_0 b0 b0_2 b0_3 b0_1) _ _ ?_ ?_ s (by unfold FUEL; omega)
  · intro i s d hi hd
    have e1 : decide ((i : Int) < (b0_1.length : Int)) = true := decide_eq_true (by omega)
    have e2 : decide (0 ≤ (i : Int)) = true := decide_eq_true (by omega)
    have e3 : Int.toNat (i : Int) = i := Int.toNat_natCast i
    have e4 := wrap_next hi (Nat.le_of_lt hl)
    show st_ref7_alone_19_2_0 ((i : Int)) (b0) (b0_1) (b0_2) (b0_3) (s) = upd _ (bd_ref7_alone_19_2_0 b0 b0_2 b0_3 b0_1 i s d)
    unfold st_ref7_alone_19_2_0 bd_ref7_alone_19_2_0
    simp only [e1, e2, e3, e4, hd, cond_true, cond_false, optC_some, upd_cond, upd_optC, upd_elim, upd_inl, upd_inr, upd_none]
  · intro s
    have e1 : decide ((b0_1.length : Int) < (b0_1.length : Int)) = false := decide_eq_false (by omega)
    show st_ref7_alone_19_2_0 ((b0_1.length : Int)) (b0) (b0_1) (b0_2) (b0_3) (s) = _
    unfold st_ref7_alone_19_2_0 fn_ref7_alone_19_2_0
    rw [e1]
    rfl
noncomputable def bd_ref7_alone_19_4_0 (b0 : (List Gb)) (b0_1 : (List Gb)) (b0_2 : (List ByteArray)) (b1 : (List ByteArray)) (b0_3 : (List Th)) (i : Nat) (b2 : (List ByteArray)) (d : Th) : Option ((List ByteArray) ⊕ (X_ref7_alone_19_4_0_0 ⊕ X_ref7_alone_19_4_0_1)) :=
  bif decide ((b2.length + [d.1].length + 1) * 16 ≤ lim) then
   bif decide (((List.length (α := I) []) + b1.length + 1) * 16 ≤ lim) then
   bif decide ((([] ++ b1).length + List.length d.2.1 + 1) * 16 ≤ lim) then
   optC (G_ref7_twice ([] ++ b1 ++ d.2.1, ())) (none) fun d13 ↦
   bif d13 then
   some (Sum.inr (Sum.inr (false, b1, b2 ++ [d.1])))
 else some (Sum.inl (b2 ++ [d.1]))
 else none
 else none
 else none
noncomputable def fn_ref7_alone_19_4_0 (b0 : (List Gb)) (b0_1 : (List Gb)) (b0_2 : (List ByteArray)) (b1 : (List ByteArray)) (b0_3 : (List Th)) (b2 : (List ByteArray)) : Option (X_ref7_alone_19_4_0_0 ⊕ X_ref7_alone_19_4_0_1) :=
  some (Sum.inl (b1, b2))
noncomputable abbrev rx_ref7_alone_19_4_0 (b0 : (List Gb)) (b0_1 : (List Gb)) (b0_2 : (List ByteArray)) (b1 : (List ByteArray)) (b0_3 : (List Th)) (i : Nat) (s : (List ByteArray)) : X_ref7_alone_19_4_0 := ((i : Int), b0, b0_1, b0_2, b0_3, b1, s)
noncomputable def rv_ref7_alone_19_4_0 (b0 : (List Gb)) (b0_1 : (List Gb)) (b0_2 : (List ByteArray)) (b1 : (List ByteArray)) (b0_3 : (List Th)) (s : (List ByteArray)) : Option (X_ref7_alone_19_4_0_0 ⊕ X_ref7_alone_19_4_0_1) := rangeO (fun i s d => bd_ref7_alone_19_4_0 b0 b0_1 b0_2 b1 b0_3 i s d) (fun s => fn_ref7_alone_19_4_0 b0 b0_1 b0_2 b1 b0_3 s) 0 b0_3 s
theorem rg_ref7_alone_19_4_0 (b0 : (List Gb)) (b0_1 : (List Gb)) (b0_2 : (List ByteArray)) (b1 : (List ByteArray)) (b0_3 : (List Th)) (s : (List ByteArray)) (hl : b0_3.length < 9223372036854775807) : L_ref7_alone_19_4_0 (0, b0, b0_1, b0_2, b0_3, b1, s) = rv_ref7_alone_19_4_0 b0 b0_1 b0_2 b1 b0_3 s := by
  unfold L_ref7_alone_19_4_0 rv_ref7_alone_19_4_0
  refine iterO_range0 b0_3 (rx_ref7_alone_19_4_0 b0 b0_1 b0_2 b1 b0_3) _ _ ?_ ?_ s (by unfold FUEL; omega)
  · intro i s d hi hd
    have e1 : decide ((i : Int) < (b0_3.length : Int)) = true := decide_eq_true (by omega)
    have e2 : decide (0 ≤ (i : Int)) = true := decide_eq_true (by omega)
    have e3 : Int.toNat (i : Int) = i := Int.toNat_natCast i
    have e4 := wrap_next hi (Nat.le_of_lt hl)
    show st_ref7_alone_19_4_0 ((i : Int)) (b0) (b0_1) (b0_2) (b0_3) (b1) (s) = upd _ (bd_ref7_alone_19_4_0 b0 b0_1 b0_2 b1 b0_3 i s d)
    unfold st_ref7_alone_19_4_0 bd_ref7_alone_19_4_0
    simp only [e1, e2, e3, e4, hd, cond_true, cond_false, optC_some, upd_cond, upd_optC, upd_elim, upd_inl, upd_inr, upd_none]
  · intro s
    have e1 : decide ((b0_3.length : Int) < (b0_3.length : Int)) = false := decide_eq_false (by omega)
    show st_ref7_alone_19_4_0 ((b0_3.length : Int)) (b0) (b0_1) (b0_2) (b0_3) (b1) (s) = _
    unfold st_ref7_alone_19_4_0 fn_ref7_alone_19_4_0
    rw [e1]
    rfl
end Go.Proofs.YtmjbedjnojcmfaaDoor.Ex

namespace Go.Proofs.YtmjbedjnojcmfaaDoor.Ex
set_option maxRecDepth 100000
set_option linter.unusedVariables false
set_option linter.unusedSimpArgs false
def twB (l : List ByteArray) : Bool := !(allIx (fun i d => !((l.take i).any (eqS d))) 0 l)
theorem n_isTwice (l : List ByteArray) (hl : l.length < 9223372036854775807) : g_check_isTwice l = some (twB l) := by
  have z : L_check_isTwice_32_0_0 (l, l, (l.length : Int), 0) = bif allIx (fun i d => !((l.take i).any (eqS d))) 0 l then some (.inl ()) else some (.inr true) := by
    refine (rg_check_isTwice_32_0_0 l l () hl).trans ?_
    unfold rv_check_isTwice_32_0_0
    rw [rangeO_ask (p := fun i d => !((l.take i).any (eqS d))) (o := .inr true) l 0 fun j d hd => ?_]
    · rfl
    · have hj := (List.getElem?_eq_some_iff.1 hd).1
      unfold bd_check_isTwice_32_0_0
      rw [Nat.zero_add, decide_eq_true (show (0 : Int) ≤ 0 ∧ 0 ≤ (j : Int) ∧ (j : Int) ≤ (l.length : Int) by omega), show List.drop (Int.toNat (0 : Int)) (List.take j l) = List.take j l from rfl]
      simp only [G_check_place, n_place (List.take j l) d (by rw [List.length_take]; omega), optC_some, cond_true, posV_has]
      cases (List.take j l).any (eqS d) <;> rfl
  unfold g_check_isTwice twB
  rw [z]
  cases allIx (fun i d => !((l.take i).any (eqS d))) 0 l <;> rfl
theorem n_ref7_twice (l : List ByteArray) (hl : l.length < 9223372036854775807) : g_ref7_twice l = some (twB l) := by
  have z : L_ref7_twice_46_0_0 (l, 0) = bif allIx (fun i d => !((l.take i).any (eqS d))) 0 l then some (.inl ()) else some (.inr true) := by
    refine (rg_ref7_twice_46_0_0 l () hl).trans ?_
    unfold rv_ref7_twice_46_0_0
    rw [rangeO_ask (p := fun i d => !((l.take i).any (eqS d))) (o := .inr true) l 0 fun j d hd => ?_]
    · rfl
    · have hj := (List.getElem?_eq_some_iff.1 hd).1
      unfold bd_ref7_twice_46_0_0
      rw [Nat.zero_add, decide_eq_true (show (0 : Int) ≤ 0 ∧ 0 ≤ (j : Int) ∧ (j : Int) ≤ (l.length : Int) by omega), show List.drop (Int.toNat (0 : Int)) (List.take j l) = List.take j l from rfl]
      simp only [G_ref7_place, n_ref7_place (List.take j l) d (by rw [List.length_take]; omega), optC_some, cond_true, posV_has]
      cases (List.take j l).any (eqS d) <;> rfl
  unfold g_ref7_twice twB
  rw [z]
  cases allIx (fun i d => !((l.take i).any (eqS d))) 0 l <;> rfl
theorem allIx_app {α : Type} {p q : Nat → α → Bool} : ∀ (l m : List α) (i : Nat), (∀ j d, l[j]? = some d → p (i + j) d = q (i + j) d) → allIx p i (l ++ m) = true → allIx q i l = true
  | [], _, _, _, _ => rfl
  | d :: r, m, i, h, k => by
    rw [List.cons_append, allIx, Bool.and_eq_true] at k
    rw [allIx, Bool.and_eq_true]
    have h0 := h 0 d rfl
    rw [Nat.add_zero] at h0
    refine ⟨h0 ▸ k.1, allIx_app r m (i + 1) (fun j e he => ?_) k.2⟩
    have := h (j + 1) e he
    rwa [show i + (j + 1) = i + 1 + j by omega] at this
theorem tw_app (l m : List ByteArray) (h : twB l = true) : twB (l ++ m) = true := by
  unfold twB at h ⊢
  rw [Bool.not_eq_true'] at h ⊢
  rw [← Bool.not_eq_true] at h ⊢
  intro k
  refine h (allIx_app l m 0 (fun j d hd => ?_) k)
  have hj := (List.getElem?_eq_some_iff.1 hd).1
  rw [Nat.zero_add, List.take_append_of_le_length (by omega)]
theorem rangeO_put {α β Y : Type} {f : Nat → List β → α → Option (List β ⊕ Y)} {fin : List β → Option Y} {g : α → β} {p : α → Bool} {o : List β → Y} {n : Nat} : ∀ (l : List α) (i : Nat) (s : List β), s.length + l.length ≤ n → (∀ i s d, d ∈ l → s.length < n → f i s d = bif p d then some (.inr (o (s ++ [g d]))) else some (.inl (s ++ [g d]))) →
    ∃ s', rangeO f fin i l s = bif l.any p then some (o s') else fin (s ++ l.map g)
  | [], i, s, _, _ => ⟨[], by rw [List.map_nil, List.append_nil]; rfl⟩
  | d :: r, i, s, hn, h => by
    rw [List.length_cons] at hn
    obtain ⟨s', k⟩ := rangeO_put (fin := fin) r (i + 1) (s ++ [g d]) (by rw [List.length_append, List.length_singleton]; omega) fun i s e he hs => h i s e (by simp [he]) hs
    rw [rangeO, h i s d (by simp) (by omega), List.any_cons, List.map_cons]
    cases p d
    · refine ⟨s', ?_⟩
      rw [Bool.false_or]
      show rangeO f fin (i + 1) r (s ++ [g d]) = _
      rw [k, List.append_assoc]
      rfl
    · exact ⟨s ++ [g d], rfl⟩
theorem any_no {α : Type} (l : List α) : (l.any fun _ => false) = false := by induction l <;> simp_all
def shL (p : Pg) : List ByteArray := (p.1.map fun g => g.1) ++ (p.2.1.map fun g => g.1) ++ p.2.2.1
def aloneB (p : Pg) : Bool := !(p.2.2.2.any fun t => twB (shL p ++ t.2.1)) && !(twB (p.2.2.2.map fun t => t.1))
theorem fits_of {p : Pg} (h : fitsB p = true) : p.1.length ≤ 6 ∧ p.2.1.length ≤ 3 ∧ p.2.2.1.length ≤ 6 ∧ p.2.2.2.length ≤ 4 ∧ ∀ t ∈ p.2.2.2, t.2.1.length ≤ 6 := by
  unfold fitsB at h
  simp only [Bool.and_eq_true, decide_eq_true_eq, List.all_eq_true] at h
  obtain ⟨h1, h2, h3, h4, h5⟩ := h
  exact ⟨by omega, by omega, by omega, by omega, fun t ht => by have := h5 t ht; omega⟩
theorem lim_le {a : Nat} (h : a ≤ 40) : decide (a * 16 ≤ lim) = true := decide_eq_true (by unfold lim; omega)
theorem n_isAlone (p : Pg) (hf : fitsB p = true) : g_check_isAlone p = some (aloneB p) := by
  obtain ⟨f1, f2, f3, f4, f5⟩ := fits_of hf
  obtain ⟨pg, pa, pm, pt⟩ := p
  simp only at f1 f2 f3 f4 f5
  obtain ⟨_, q1⟩ := rangeO_put (n := 20) (f := fun i s d => bd_check_isAlone_12_0_0 pg pa pm pt pg i s d) (fin := fun s => fn_check_isAlone_12_0_0 pg pa pm pt pg s) (g := fun d : Gb => d.1) (p := fun _ => false) (o := fun s => (pg, pa, pm, pt, s)) pg 0 [] (by simp only [List.length_nil]; omega) fun i s d _ hs => by
    unfold bd_check_isAlone_12_0_0
    rw [lim_le (by simp only [List.length_singleton]; omega)]; rfl
  rw [any_no] at q1
  have z1 : L_check_isAlone_12_0_0 (pg, (pg.length : Int), 0, pg, pa, pm, pt, []) = some (pg, pa, pm, pt, pg.map fun g => g.1) := (rg_check_isAlone_12_0_0 pg pa pm pt pg [] (by omega)).trans q1
  obtain ⟨_, q2⟩ := rangeO_put (n := 20) (f := fun i s d => bd_check_isAlone_12_2_0 pg pa pm pt pa i s d) (fin := fun s => fn_check_isAlone_12_2_0 pg pa pm pt pa s) (g := fun d : Gb => d.1) (p := fun _ => false) (o := fun s => (pg, pa, pm, pt, s)) pa 0 (pg.map fun g => g.1) (by simp only [List.length_map]; omega) fun i s d _ hs => by
    unfold bd_check_isAlone_12_2_0
    rw [lim_le (by simp only [List.length_singleton]; omega)]; rfl
  rw [any_no] at q2
  have z2 : L_check_isAlone_12_2_0 (pa, (pa.length : Int), 0, pg, pa, pm, pt, pg.map fun g => g.1) = some (pg, pa, pm, pt, (pg.map fun g => g.1) ++ pa.map fun g => g.1) := (rg_check_isAlone_12_2_0 pg pa pm pt pa _ (by omega)).trans q2
  have hsh : (shL (pg, pa, pm, pt)).length ≤ 15 := by
    unfold shL
    simp only [List.length_append, List.length_map]; omega
  obtain ⟨s', q3⟩ := rangeO_put (n := 20) (f := fun i s d => bd_check_isAlone_12_4_0 (shL (pg, pa, pm, pt)) pt i s d) (fin := fun s => fn_check_isAlone_12_4_0 (shL (pg, pa, pm, pt)) pt s) (g := fun d : Th => d.1) (p := fun t => twB (shL (pg, pa, pm, pt) ++ t.2.1)) (o := fun s => .inr (false, s)) pt 0 [] (by simp only [List.length_nil]; omega) fun i s d hd hs => by
    have hd := f5 d hd
    unfold bd_check_isAlone_12_4_0
    rw [lim_le (by simp only [List.length_singleton]; omega), lim_le (by simp only [List.length_nil]; omega), lim_le (by simp only [List.nil_append]; omega)]
    simp only [cond_true, List.nil_append, G_check_isTwice, n_isTwice (shL (pg, pa, pm, pt) ++ d.2.1) (by rw [List.length_append]; omega), optC_some]
  have z3 : L_check_isAlone_12_4_0 (pt, (pt.length : Int), 0, shL (pg, pa, pm, pt), []) = _ := (rg_check_isAlone_12_4_0 (shL (pg, pa, pm, pt)) pt [] (by omega)).trans q3
  unfold g_check_isAlone aloneB
  simp only [z1, z2, optC_some]
  rw [lim_le (by simp only [List.length_append, List.length_map]; omega)]
  rw [show (pg.map fun g => g.1) ++ (pa.map fun g => g.1) ++ pm = shL (pg, pa, pm, pt) from rfl, z3]
  cases pt.any fun t => twB (shL (pg, pa, pm, pt) ++ t.2.1)
  · show (bif true then optC (some (Sum.inl ([] ++ pt.map fun t => t.1))) none _ else none) = _
    simp only [cond_true, optC_some, Sum.elim_inl, List.nil_append, G_check_isTwice, n_isTwice (pt.map fun t => t.1) (by rw [List.length_map]; omega), Bool.not_false, Bool.true_and]
  · rfl
theorem n_alone (p : Pg) (hf : fitsB p = true) (hn : p.2.2.2 ≠ []) : g_ref7_alone p = some (aloneB p) := by
  obtain ⟨f1, f2, f3, f4, f5⟩ := fits_of hf
  obtain ⟨pg, pa, pm, pt⟩ := p
  simp only at f1 f2 f3 f4 f5 hn
  obtain ⟨_, q1⟩ := rangeO_put (n := 20) (f := fun i s d => bd_ref7_alone_19_0_0 pa pm pt pg i s d) (fin := fun s => fn_ref7_alone_19_0_0 pa pm pt pg s) (g := fun d : Gb => d.1) (p := fun _ => false) (o := fun s => (pg, pa, pm, pt, s)) pg 0 [] (by simp only [List.length_nil]; omega) fun i s d _ hs => by
    unfold bd_ref7_alone_19_0_0
    rw [lim_le (by simp only [List.length_singleton]; omega)]; rfl
  rw [any_no] at q1
  have z1 : L_ref7_alone_19_0_0 (0, pg, pa, pm, pt, []) = some (pg, pa, pm, pt, pg.map fun g => g.1) := (rg_ref7_alone_19_0_0 pa pm pt pg [] (by omega)).trans q1
  obtain ⟨_, q2⟩ := rangeO_put (n := 20) (f := fun i s d => bd_ref7_alone_19_2_0 pg pm pt pa i s d) (fin := fun s => fn_ref7_alone_19_2_0 pg pm pt pa s) (g := fun d : Gb => d.1) (p := fun _ => false) (o := fun s => (pg, pa, pm, pt, s)) pa 0 (pg.map fun g => g.1) (by simp only [List.length_map]; omega) fun i s d _ hs => by
    unfold bd_ref7_alone_19_2_0
    rw [lim_le (by simp only [List.length_singleton]; omega)]; rfl
  rw [any_no] at q2
  have z2 : L_ref7_alone_19_2_0 (0, pg, pa, pm, pt, pg.map fun g => g.1) = some (pg, pa, pm, pt, (pg.map fun g => g.1) ++ pa.map fun g => g.1) := (rg_ref7_alone_19_2_0 pg pm pt pa _ (by omega)).trans q2
  have hsh : (shL (pg, pa, pm, pt)).length ≤ 15 := by
    unfold shL
    simp only [List.length_append, List.length_map]; omega
  obtain ⟨s', q3⟩ := rangeO_put (n := 20) (f := fun i s d => bd_ref7_alone_19_4_0 pg pa pm (shL (pg, pa, pm, pt)) pt i s d) (fin := fun s => fn_ref7_alone_19_4_0 pg pa pm (shL (pg, pa, pm, pt)) pt s) (g := fun d : Th => d.1) (p := fun t => twB (shL (pg, pa, pm, pt) ++ t.2.1)) (o := fun s => .inr (false, shL (pg, pa, pm, pt), s)) pt 0 [] (by simp only [List.length_nil]; omega) fun i s d hd hs => by
    have hd := f5 d hd
    unfold bd_ref7_alone_19_4_0
    rw [lim_le (by simp only [List.length_singleton]; omega), lim_le (by simp only [List.length_nil]; omega), lim_le (by simp only [List.nil_append]; omega)]
    simp only [cond_true, List.nil_append, G_ref7_twice, n_ref7_twice (shL (pg, pa, pm, pt) ++ d.2.1) (by rw [List.length_append]; omega), optC_some]
  have z3 : L_ref7_alone_19_4_0 (0, pg, pa, pm, pt, shL (pg, pa, pm, pt), []) = _ := (rg_ref7_alone_19_4_0 pg pa pm (shL (pg, pa, pm, pt)) pt [] (by omega)).trans q3
  unfold g_ref7_alone aloneB
  simp only [z1, z2, optC_some]
  rw [lim_le (by simp only [List.length_append, List.length_map]; omega)]
  rw [show (pg.map fun g => g.1) ++ (pa.map fun g => g.1) ++ pm = shL (pg, pa, pm, pt) from rfl, z3]
  cases hany : pt.any fun t => twB (shL (pg, pa, pm, pt) ++ t.2.1)
  · have hnot : twB (shL (pg, pa, pm, pt)) = false := by
      cases htw : twB (shL (pg, pa, pm, pt)) with
      | false => rfl
      | true =>
        obtain ⟨t, r, rfl⟩ : ∃ t r, pt = t :: r := by
          cases pt with
          | nil => exact absurd rfl hn
          | cons t r => exact ⟨t, r, rfl⟩
        rw [List.any_cons, tw_app _ _ htw, Bool.true_or] at hany
        cases hany
    show (bif true then optC (some (Sum.inl (shL (pg, pa, pm, pt), [] ++ pt.map fun t => t.1))) none _ else none) = _
    simp only [cond_true, optC_some, Sum.elim_inl, List.nil_append, G_ref7_twice, n_ref7_twice (shL (pg, pa, pm, pt)) (by omega), hnot, n_ref7_twice (pt.map fun t => t.1) (by rw [List.length_map]; omega), Bool.not_false, Bool.true_and]
  · rfl
end Go.Proofs.YtmjbedjnojcmfaaDoor.Ex

namespace Go.Proofs.YtmjbedjnojcmfaaDoor.Ex
open Go.Proofs Go.Proofs.YtmjbedjnojcmfaaDoor
set_option maxRecDepth 100000
set_option maxHeartbeats 2000000
set_option linter.unusedVariables false
set_option linter.unusedSimpArgs false
def ash_check_Check : List Sh := [.dat tPg]
def kp_check_Check_64_0 : Nat → List Nat := fun c => bif c.beq 0 then [0, 1, 7, 8] else [4]
def kp_check_Check_63_0 : Nat → List Nat := fun c => bif c.beq 0 then [0, 1, 7, 8] else [4]
noncomputable def sp_check_Check : List Con := [⟨10, con_check_fits, snd_check_fits⟩, ⟨11, con_check_isForm, snd_check_isForm⟩, ⟨12, con_check_isAlone, snd_check_isAlone⟩, ⟨16, con_check_scope_stmt, snd_check_scope_stmt⟩]
def s_check_Check_64_0_0 : StS := ⟨[(0, .sl (.mu 2)), (1, .clo 37 [] [.ptr 4 0]), (7, .int .i64), (8, .int .i64)], [(4, .box [.clo 16 [.agg [.sl tGb, .sl tGb, .sl .str, .sl tTh, .str, .sl .str, .sl (.mu 2)]] []]), (3, .box [.str, .sl .str, .sl (.mu 2)]), (2, .box [.str, .sl .str, .sl (.mu 2)]), (1, .box [.clo 14 [] [.ptr 0 0]]), (0, .box [.sl tGb, .sl tGb, .sl .str, .sl tTh])], 5⟩
def x_check_Check_64_0_0_0 : StS := ⟨[(4, .undef)], [(4, .box [.clo 16 [.agg [.sl tGb, .sl tGb, .sl .str, .sl tTh, .str, .sl .str, .sl (.mu 2)]] []]), (3, .box [.str, .sl .str, .sl (.mu 2)]), (2, .box [.str, .sl .str, .sl (.mu 2)]), (1, .box [.clo 14 [] [.ptr 0 0]]), (0, .box [.sl tGb, .sl tGb, .sl .str, .sl tTh])], 5⟩
def x_check_Check_64_0_0_1 : StS := ⟨[(4, .int .i64)], [(4, .box [.clo 16 [.agg [.sl tGb, .sl tGb, .sl .str, .sl tTh, .str, .sl .str, .sl (.mu 2)]] []]), (3, .box [.str, .sl .str, .sl (.mu 2)]), (2, .box [.str, .sl .str, .sl (.mu 2)]), (1, .box [.clo 14 [] [.ptr 0 0]]), (0, .box [.sl tGb, .sl tGb, .sl .str, .sl tTh])], 5⟩
abbrev X_check_Check_64_0_0 := ((List (RT.C 2)) × Int × Int × (List Gb) × (List Gb) × (List ByteArray) × (List Th) × ByteArray × (List ByteArray) × (List (RT.C 2)) × ByteArray × (List ByteArray) × (List (RT.C 2)) × ByteArray × (List ByteArray) × (List (RT.C 2)) × (List Gb) × (List Gb) × (List ByteArray) × (List Th))
def fl_check_Check_64_0_0 (d : StD s_check_Check_64_0_0) : X_check_Check_64_0_0 := (d.1.1, d.1.2.2.1, d.1.2.2.2.1, d.2.1.1.1.1.1, d.2.1.1.1.1.2.1, d.2.1.1.1.1.2.2.1, d.2.1.1.1.1.2.2.2.1, d.2.1.1.1.1.2.2.2.2.1, d.2.1.1.1.1.2.2.2.2.2.1, d.2.1.1.1.1.2.2.2.2.2.2.1, d.2.2.1.1, d.2.2.1.2.1, d.2.2.1.2.2.1, d.2.2.2.1.1, d.2.2.2.1.2.1, d.2.2.2.1.2.2.1, d.2.2.2.2.2.1.1, d.2.2.2.2.2.1.2.1, d.2.2.2.2.2.1.2.2.1, d.2.2.2.2.2.1.2.2.2.1)
def un_check_Check_64_0_0 (x : X_check_Check_64_0_0) : StD s_check_Check_64_0_0 := ((x.1, ((), ((), ())), x.2.1, x.2.2.1, ()), (((((x.2.2.2.1, x.2.2.2.2.1, x.2.2.2.2.2.1, x.2.2.2.2.2.2.1, x.2.2.2.2.2.2.2.1, x.2.2.2.2.2.2.2.2.1, x.2.2.2.2.2.2.2.2.2.1, ()), ()), ()), ()), (x.2.2.2.2.2.2.2.2.2.2.1, x.2.2.2.2.2.2.2.2.2.2.2.1, x.2.2.2.2.2.2.2.2.2.2.2.2.1, ()), (x.2.2.2.2.2.2.2.2.2.2.2.2.2.1, x.2.2.2.2.2.2.2.2.2.2.2.2.2.2.1, x.2.2.2.2.2.2.2.2.2.2.2.2.2.2.2.1, ()), (((), ((), ())), ()), (x.2.2.2.2.2.2.2.2.2.2.2.2.2.2.2.2.1, x.2.2.2.2.2.2.2.2.2.2.2.2.2.2.2.2.2.1, x.2.2.2.2.2.2.2.2.2.2.2.2.2.2.2.2.2.2.1, x.2.2.2.2.2.2.2.2.2.2.2.2.2.2.2.2.2.2.2, ()), ()))
abbrev X_check_Check_64_0_0_0 := ((List Gb) × (List Gb) × (List ByteArray) × (List Th) × ByteArray × (List ByteArray) × (List (RT.C 2)) × ByteArray × (List ByteArray) × (List (RT.C 2)) × ByteArray × (List ByteArray) × (List (RT.C 2)) × (List Gb) × (List Gb) × (List ByteArray) × (List Th))
def fl_check_Check_64_0_0_0 (d : StD x_check_Check_64_0_0_0) : X_check_Check_64_0_0_0 := (d.2.1.1.1.1.1, d.2.1.1.1.1.2.1, d.2.1.1.1.1.2.2.1, d.2.1.1.1.1.2.2.2.1, d.2.1.1.1.1.2.2.2.2.1, d.2.1.1.1.1.2.2.2.2.2.1, d.2.1.1.1.1.2.2.2.2.2.2.1, d.2.2.1.1, d.2.2.1.2.1, d.2.2.1.2.2.1, d.2.2.2.1.1, d.2.2.2.1.2.1, d.2.2.2.1.2.2.1, d.2.2.2.2.2.1.1, d.2.2.2.2.2.1.2.1, d.2.2.2.2.2.1.2.2.1, d.2.2.2.2.2.1.2.2.2.1)
def un_check_Check_64_0_0_0 (x : X_check_Check_64_0_0_0) : StD x_check_Check_64_0_0_0 := (((), ()), (((((x.1, x.2.1, x.2.2.1, x.2.2.2.1, x.2.2.2.2.1, x.2.2.2.2.2.1, x.2.2.2.2.2.2.1, ()), ()), ()), ()), (x.2.2.2.2.2.2.2.1, x.2.2.2.2.2.2.2.2.1, x.2.2.2.2.2.2.2.2.2.1, ()), (x.2.2.2.2.2.2.2.2.2.2.1, x.2.2.2.2.2.2.2.2.2.2.2.1, x.2.2.2.2.2.2.2.2.2.2.2.2.1, ()), (((), ((), ())), ()), (x.2.2.2.2.2.2.2.2.2.2.2.2.2.1, x.2.2.2.2.2.2.2.2.2.2.2.2.2.2.1, x.2.2.2.2.2.2.2.2.2.2.2.2.2.2.2.1, x.2.2.2.2.2.2.2.2.2.2.2.2.2.2.2.2, ()), ()))
abbrev X_check_Check_64_0_0_1 := (Int × (List Gb) × (List Gb) × (List ByteArray) × (List Th) × ByteArray × (List ByteArray) × (List (RT.C 2)) × ByteArray × (List ByteArray) × (List (RT.C 2)) × ByteArray × (List ByteArray) × (List (RT.C 2)) × (List Gb) × (List Gb) × (List ByteArray) × (List Th))
def fl_check_Check_64_0_0_1 (d : StD x_check_Check_64_0_0_1) : X_check_Check_64_0_0_1 := (d.1.1, d.2.1.1.1.1.1, d.2.1.1.1.1.2.1, d.2.1.1.1.1.2.2.1, d.2.1.1.1.1.2.2.2.1, d.2.1.1.1.1.2.2.2.2.1, d.2.1.1.1.1.2.2.2.2.2.1, d.2.1.1.1.1.2.2.2.2.2.2.1, d.2.2.1.1, d.2.2.1.2.1, d.2.2.1.2.2.1, d.2.2.2.1.1, d.2.2.2.1.2.1, d.2.2.2.1.2.2.1, d.2.2.2.2.2.1.1, d.2.2.2.2.2.1.2.1, d.2.2.2.2.2.1.2.2.1, d.2.2.2.2.2.1.2.2.2.1)
def un_check_Check_64_0_0_1 (x : X_check_Check_64_0_0_1) : StD x_check_Check_64_0_0_1 := ((x.1, ()), (((((x.2.1, x.2.2.1, x.2.2.2.1, x.2.2.2.2.1, x.2.2.2.2.2.1, x.2.2.2.2.2.2.1, x.2.2.2.2.2.2.2.1, ()), ()), ()), ()), (x.2.2.2.2.2.2.2.2.1, x.2.2.2.2.2.2.2.2.2.1, x.2.2.2.2.2.2.2.2.2.2.1, ()), (x.2.2.2.2.2.2.2.2.2.2.2.1, x.2.2.2.2.2.2.2.2.2.2.2.2.1, x.2.2.2.2.2.2.2.2.2.2.2.2.2.1, ()), (((), ((), ())), ()), (x.2.2.2.2.2.2.2.2.2.2.2.2.2.2.1, x.2.2.2.2.2.2.2.2.2.2.2.2.2.2.2.1, x.2.2.2.2.2.2.2.2.2.2.2.2.2.2.2.2.1, x.2.2.2.2.2.2.2.2.2.2.2.2.2.2.2.2.2, ()), ()))
noncomputable def st_check_Check_64_0_0 (s0 : (List (RT.C 2))) (s7 : Int) (s8 : Int) (b4 : (List Gb)) (b4_1 : (List Gb)) (b4_2 : (List ByteArray)) (b4_3 : (List Th)) (b4_4 : ByteArray) (b4_5 : (List ByteArray)) (b4_6 : (List (RT.C 2))) (b3 : ByteArray) (b3_1 : (List ByteArray)) (b3_2 : (List (RT.C 2))) (b2 : ByteArray) (b2_1 : (List ByteArray)) (b2_2 : (List (RT.C 2))) (b0 : (List Gb)) (b0_1 : (List Gb)) (b0_2 : (List ByteArray)) (b0_3 : (List Th)) : Option (((List (RT.C 2)) × Int × Int × (List Gb) × (List Gb) × (List ByteArray) × (List Th) × ByteArray × (List ByteArray) × (List (RT.C 2)) × ByteArray × (List ByteArray) × (List (RT.C 2)) × ByteArray × (List ByteArray) × (List (RT.C 2)) × (List Gb) × (List Gb) × (List ByteArray) × (List Th)) ⊕ (((List Gb) × (List Gb) × (List ByteArray) × (List Th) × ByteArray × (List ByteArray) × (List (RT.C 2)) × ByteArray × (List ByteArray) × (List (RT.C 2)) × ByteArray × (List ByteArray) × (List (RT.C 2)) × (List Gb) × (List Gb) × (List ByteArray) × (List Th)) ⊕ (Int × (List Gb) × (List Gb) × (List ByteArray) × (List Th) × ByteArray × (List ByteArray) × (List (RT.C 2)) × ByteArray × (List ByteArray) × (List (RT.C 2)) × ByteArray × (List ByteArray) × (List (RT.C 2)) × (List Gb) × (List Gb) × (List ByteArray) × (List Th)))) :=
  bif decide (s8 < s7) then
 bif decide (0 ≤ s8) then
 optC s0[s8.toNat]? none fun d23 ↦
 optC (G_check_scope_stmt (((b4, b4_1, b4_2, b4_3), b4_4, b4_5, b4_6), uT2 d23, ())) none fun d24 ↦
 bif !d24 then some (Sum.inr (Sum.inr (s8, b4, b4_1, b4_2, b4_3, b4_4, b4_5, b4_6, b3, b3_1, b3_2, b2, b2_1, b2_2, b0, b0_1, b0_2, b0_3)))
 else some (Sum.inl (s0, s7, Go.IntKind.i64.wrap (s8 + 1), b4, b4_1, b4_2, b4_3, b4_4, b4_5, b4_6, b3, b3_1, b3_2, b2, b2_1, b2_2, b0, b0_1, b0_2, b0_3))
 else none
 else some (Sum.inr (Sum.inl (b4, b4_1, b4_2, b4_3, b4_4, b4_5, b4_6, b3, b3_1, b3_2, b2, b2_1, b2_2, b0, b0_1, b0_2, b0_3)))
noncomputable def sx_check_Check_64_0_0 (x : X_check_Check_64_0_0) : Option (X_check_Check_64_0_0 ⊕ (X_check_Check_64_0_0_0 ⊕ X_check_Check_64_0_0_1)) := st_check_Check_64_0_0 x.1 x.2.1 x.2.2.1 x.2.2.2.1 x.2.2.2.2.1 x.2.2.2.2.2.1 x.2.2.2.2.2.2.1 x.2.2.2.2.2.2.2.1 x.2.2.2.2.2.2.2.2.1 x.2.2.2.2.2.2.2.2.2.1 x.2.2.2.2.2.2.2.2.2.2.1 x.2.2.2.2.2.2.2.2.2.2.2.1 x.2.2.2.2.2.2.2.2.2.2.2.2.1 x.2.2.2.2.2.2.2.2.2.2.2.2.2.1 x.2.2.2.2.2.2.2.2.2.2.2.2.2.2.1 x.2.2.2.2.2.2.2.2.2.2.2.2.2.2.2.1 x.2.2.2.2.2.2.2.2.2.2.2.2.2.2.2.2.1 x.2.2.2.2.2.2.2.2.2.2.2.2.2.2.2.2.2.1 x.2.2.2.2.2.2.2.2.2.2.2.2.2.2.2.2.2.2.1 x.2.2.2.2.2.2.2.2.2.2.2.2.2.2.2.2.2.2.2
theorem rn_check_Check_64_0_0 (x : X_check_Check_64_0_0) : rdX (cxU sp_check_Check [] 40 1048576) keeps 8 ⟨64, 19, keeps 64, 5⟩ 0 (bodyX 64 0) 5 kp_check_Check_64_0 (sT s_check_Check_64_0_0 (un_check_Check_64_0_0 x)) (sH s_check_Check_64_0_0 (un_check_Check_64_0_0 x)) (rdO (fun T h => (rdS s_check_Check_64_0_0 T h).map fl_check_Check_64_0_0) (getOr (getE 2 x_check_Check_64_0_0_0 fl_check_Check_64_0_0_0) (getE 1 x_check_Check_64_0_0_1 fl_check_Check_64_0_0_1))) = sx_check_Check_64_0_0 x := by kernel_rfl
noncomputable def L_check_Check_64_0_0 (x : X_check_Check_64_0_0) : Option (X_check_Check_64_0_0_0 ⊕ X_check_Check_64_0_0_1) := iterO (fun x => st_check_Check_64_0_0 x.1 x.2.1 x.2.2.1 x.2.2.2.1 x.2.2.2.2.1 x.2.2.2.2.2.1 x.2.2.2.2.2.2.1 x.2.2.2.2.2.2.2.1 x.2.2.2.2.2.2.2.2.1 x.2.2.2.2.2.2.2.2.2.1 x.2.2.2.2.2.2.2.2.2.2.1 x.2.2.2.2.2.2.2.2.2.2.2.1 x.2.2.2.2.2.2.2.2.2.2.2.2.1 x.2.2.2.2.2.2.2.2.2.2.2.2.2.1 x.2.2.2.2.2.2.2.2.2.2.2.2.2.2.1 x.2.2.2.2.2.2.2.2.2.2.2.2.2.2.2.1 x.2.2.2.2.2.2.2.2.2.2.2.2.2.2.2.2.1 x.2.2.2.2.2.2.2.2.2.2.2.2.2.2.2.2.2.1 x.2.2.2.2.2.2.2.2.2.2.2.2.2.2.2.2.2.2.1 x.2.2.2.2.2.2.2.2.2.2.2.2.2.2.2.2.2.2.2) FUEL x
noncomputable def q_check_Check_64_0 : Nat → Tm → Prog (Nat × Tm) := (varP 5 (fun T h => (rdS s_check_Check_64_0_0 T h).map fl_check_Check_64_0_0) L_check_Check_64_0_0 (fun y => .alt y (altE 2 x_check_Check_64_0_0_0 un_check_Check_64_0_0_0) (altE 1 x_check_Check_64_0_0_1 un_check_Check_64_0_0_1)) (fun _ _ => .fail))
noncomputable def lc_check_Check_64_0 : Lpc := ⟨64, 0, 19, (fun base T => .norm base (kp_check_Check_64_0 0) T (q_check_Check_64_0 base)), by kernel_rfl, by kernel_rfl, (loopU sp_check_Check [] 40 1048576 8 (keep := kp_check_Check_64_0) (q := q_check_Check_64_0) (by kernel_rfl) (varX_ok (s := s_check_Check_64_0_0) (un := un_check_Check_64_0_0) (by rfl) (fun _ => rfl) (getOr_ok (getE_ok (s := x_check_Check_64_0_0_0) (un := un_check_Check_64_0_0_0) (by rfl) (fun _ => rfl)) (getE_ok (s := x_check_Check_64_0_0_1) (un := un_check_Check_64_0_0_1) (by rfl) (fun _ => rfl))) (step := sx_check_Check_64_0_0) rn_check_Check_64_0_0 (fun _ _ e => ⟨_, e⟩) (altOr_ok (altE_ok 2 x_check_Check_64_0_0_0 un_check_Check_64_0_0_0) (altE_ok 1 x_check_Check_64_0_0_1 un_check_Check_64_0_0_1)) (VarOk.fail _ _)))⟩
noncomputable abbrev cx_check_Check_63_0 := cxU sp_check_Check [lc_check_Check_64_0] 40 1048576
def s_check_Check_63_0_0 : StS := ⟨[(0, .sl tTh), (1, .clo 35 [] [.ptr 1 0]), (7, .int .i64), (8, .int .i64)], [(1, .box [.clo 14 [] [.ptr 0 0]]), (0, .box [.sl tGb, .sl tGb, .sl .str, .sl tTh])], 2⟩
def x_check_Check_63_0_0_0 : StS := ⟨[(4, .undef)], [(1, .box [.clo 14 [] [.ptr 0 0]]), (0, .box [.sl tGb, .sl tGb, .sl .str, .sl tTh])], 2⟩
def x_check_Check_63_0_0_1 : StS := ⟨[(4, .int .i64)], [(1, .box [.clo 14 [] [.ptr 0 0]]), (0, .box [.sl tGb, .sl tGb, .sl .str, .sl tTh])], 2⟩
abbrev X_check_Check_63_0_0 := ((List Th) × Int × Int × (List Gb) × (List Gb) × (List ByteArray) × (List Th))
def fl_check_Check_63_0_0 (d : StD s_check_Check_63_0_0) : X_check_Check_63_0_0 := (d.1.1, d.1.2.2.1, d.1.2.2.2.1, d.2.2.1.1, d.2.2.1.2.1, d.2.2.1.2.2.1, d.2.2.1.2.2.2.1)
def un_check_Check_63_0_0 (x : X_check_Check_63_0_0) : StD s_check_Check_63_0_0 := ((x.1, ((), ((), ())), x.2.1, x.2.2.1, ()), ((((), ((), ())), ()), (x.2.2.2.1, x.2.2.2.2.1, x.2.2.2.2.2.1, x.2.2.2.2.2.2, ()), ()))
abbrev X_check_Check_63_0_0_0 := ((List Gb) × (List Gb) × (List ByteArray) × (List Th))
def fl_check_Check_63_0_0_0 (d : StD x_check_Check_63_0_0_0) : X_check_Check_63_0_0_0 := (d.2.2.1.1, d.2.2.1.2.1, d.2.2.1.2.2.1, d.2.2.1.2.2.2.1)
def un_check_Check_63_0_0_0 (x : X_check_Check_63_0_0_0) : StD x_check_Check_63_0_0_0 := (((), ()), ((((), ((), ())), ()), (x.1, x.2.1, x.2.2.1, x.2.2.2, ()), ()))
abbrev X_check_Check_63_0_0_1 := (Int × (List Gb) × (List Gb) × (List ByteArray) × (List Th))
def fl_check_Check_63_0_0_1 (d : StD x_check_Check_63_0_0_1) : X_check_Check_63_0_0_1 := (d.1.1, d.2.2.1.1, d.2.2.1.2.1, d.2.2.1.2.2.1, d.2.2.1.2.2.2.1)
def un_check_Check_63_0_0_1 (x : X_check_Check_63_0_0_1) : StD x_check_Check_63_0_0_1 := ((x.1, ()), ((((), ((), ())), ()), (x.2.1, x.2.2.1, x.2.2.2.1, x.2.2.2.2, ()), ()))
noncomputable def st_check_Check_63_0_0 (s0 : (List Th)) (s7 : Int) (s8 : Int) (b0 : (List Gb)) (b0_1 : (List Gb)) (b0_2 : (List ByteArray)) (b0_3 : (List Th)) : Option (((List Th) × Int × Int × (List Gb) × (List Gb) × (List ByteArray) × (List Th)) ⊕ (((List Gb) × (List Gb) × (List ByteArray) × (List Th)) ⊕ (Int × (List Gb) × (List Gb) × (List ByteArray) × (List Th)))) :=
  bif decide (s8 < s7) then
 bif decide (0 ≤ s8) then
 optC s0[s8.toNat]? none fun d10 ↦
 optC
 (L_check_Check_64_0_0
 (d10.2.2, (↑(List.length d10.2.2) : Int), 0, b0, b0_1, b0_2, b0_3, d10.1, d10.2.1, d10.2.2, d10.1, d10.2.1, d10.2.2, d10.1, d10.2.1, d10.2.2, b0, b0_1,
 b0_2, b0_3))
 none fun d11 ↦
 Sum.elim
 (fun e12 ↦
 some
 (Sum.inl
 (s0, s7, Go.IntKind.i64.wrap (s8 + 1), e12.2.2.2.2.2.2.2.2.2.2.2.2.2.1, e12.2.2.2.2.2.2.2.2.2.2.2.2.2.2.1,
 e12.2.2.2.2.2.2.2.2.2.2.2.2.2.2.2.1, e12.2.2.2.2.2.2.2.2.2.2.2.2.2.2.2.2)))
 (fun e12 ↦
 bif !!decide (e12.1 ≥ 0) then
 some
 (Sum.inr
 (Sum.inr
 (s8, e12.2.2.2.2.2.2.2.2.2.2.2.2.2.2.1, e12.2.2.2.2.2.2.2.2.2.2.2.2.2.2.2.1,
 e12.2.2.2.2.2.2.2.2.2.2.2.2.2.2.2.2.1, e12.2.2.2.2.2.2.2.2.2.2.2.2.2.2.2.2.2)))
 else
 some
 (Sum.inl
 (s0, s7, Go.IntKind.i64.wrap (s8 + 1), e12.2.2.2.2.2.2.2.2.2.2.2.2.2.2.1, e12.2.2.2.2.2.2.2.2.2.2.2.2.2.2.2.1,
 e12.2.2.2.2.2.2.2.2.2.2.2.2.2.2.2.2.1, e12.2.2.2.2.2.2.2.2.2.2.2.2.2.2.2.2.2)))
 d11
 else none
 else some (Sum.inr (Sum.inl (b0, b0_1, b0_2, b0_3)))
noncomputable def sx_check_Check_63_0_0 (x : X_check_Check_63_0_0) : Option (X_check_Check_63_0_0 ⊕ (X_check_Check_63_0_0_0 ⊕ X_check_Check_63_0_0_1)) := st_check_Check_63_0_0 x.1 x.2.1 x.2.2.1 x.2.2.2.1 x.2.2.2.2.1 x.2.2.2.2.2.1 x.2.2.2.2.2.2
theorem rn_check_Check_63_0_0 (x : X_check_Check_63_0_0) : rdX cx_check_Check_63_0 keeps 8 ⟨63, 19, keeps 63, 2⟩ 0 (bodyX 63 0) 2 kp_check_Check_63_0 (sT s_check_Check_63_0_0 (un_check_Check_63_0_0 x)) (sH s_check_Check_63_0_0 (un_check_Check_63_0_0 x)) (rdO (fun T h => (rdS s_check_Check_63_0_0 T h).map fl_check_Check_63_0_0) (getOr (getE 2 x_check_Check_63_0_0_0 fl_check_Check_63_0_0_0) (getE 1 x_check_Check_63_0_0_1 fl_check_Check_63_0_0_1))) = sx_check_Check_63_0_0 x := by kernel_rfl
noncomputable def L_check_Check_63_0_0 (x : X_check_Check_63_0_0) : Option (X_check_Check_63_0_0_0 ⊕ X_check_Check_63_0_0_1) := iterO (fun x => st_check_Check_63_0_0 x.1 x.2.1 x.2.2.1 x.2.2.2.1 x.2.2.2.2.1 x.2.2.2.2.2.1 x.2.2.2.2.2.2) FUEL x
noncomputable def q_check_Check_63_0 : Nat → Tm → Prog (Nat × Tm) := (varP 2 (fun T h => (rdS s_check_Check_63_0_0 T h).map fl_check_Check_63_0_0) L_check_Check_63_0_0 (fun y => .alt y (altE 2 x_check_Check_63_0_0_0 un_check_Check_63_0_0_0) (altE 1 x_check_Check_63_0_0_1 un_check_Check_63_0_0_1)) (fun _ _ => .fail))
noncomputable def lc_check_Check_63_0 : Lpc := ⟨63, 0, 19, (fun base T => .norm base (kp_check_Check_63_0 0) T (q_check_Check_63_0 base)), by kernel_rfl, by kernel_rfl, (loopU sp_check_Check [lc_check_Check_64_0] 40 1048576 8 (keep := kp_check_Check_63_0) (q := q_check_Check_63_0) (by kernel_rfl) (varX_ok (s := s_check_Check_63_0_0) (un := un_check_Check_63_0_0) (by rfl) (fun _ => rfl) (getOr_ok (getE_ok (s := x_check_Check_63_0_0_0) (un := un_check_Check_63_0_0_0) (by rfl) (fun _ => rfl)) (getE_ok (s := x_check_Check_63_0_0_1) (un := un_check_Check_63_0_0_1) (by rfl) (fun _ => rfl))) (step := sx_check_Check_63_0_0) rn_check_Check_63_0_0 (fun _ _ e => ⟨_, e⟩) (altOr_ok (altE_ok 2 x_check_Check_63_0_0_0 un_check_Check_63_0_0_0) (altE_ok 1 x_check_Check_63_0_0_1 un_check_Check_63_0_0_1)) (VarOk.fail _ _)))⟩
noncomputable def g_check_Check (a0 : Pg) : Option Int :=
  optC (G_check_fits (a0, ())) none fun d4 ↦
 bif !d4 then some 4
 else
 optC (G_check_isForm (a0, ())) none fun d5 ↦
 bif !d5 then some 2
 else
 optC (G_check_isAlone (a0, ())) none fun d6 ↦
 bif !d6 then some 5
 else
 optC (L_check_Check_63_0_0 (a0.2.2.2, (↑(List.length a0.2.2.2) : Int), 0, a0)) none fun d7 ↦
 Sum.elim (fun e8 ↦ some 0) (fun e8 ↦ bif !!decide (e8.1 ≥ 0) then some 6 else some 0) d7
theorem raw_check_Check (a0 : Pg) : evGX (cxU sp_check_Check [lc_check_Check_64_0, lc_check_Check_63_0] 40 1048576) keeps 8 7 ash_check_Check (.dat (.int .i64)) ((a0, ()) : (Pg × Unit)) = g_check_Check a0 := by kernel_rfl
noncomputable def G_check_Check (x : (Pg × Unit)) : Option Int := g_check_Check x.1
noncomputable def con_check_Check : List AV → Prog AV := conP false ash_check_Check (.dat (.int .i64)) G_check_Check
theorem snd_check_Check : SoundA Tryd.prog 7 con_check_Check := conP_sound (calU sp_check_Check [lc_check_Check_64_0, lc_check_Check_63_0] 40 1048576 8 7) false (by rfl) (by rfl) (fun x r e => (evGX_eq _ _ _ _ _ _ _).trans ((raw_check_Check x.1).trans e)) (.inr fun _ => rfl)
end Go.Proofs.YtmjbedjnojcmfaaDoor.Ex

namespace Go.Proofs.YtmjbedjnojcmfaaDoor.Ex
set_option maxRecDepth 100000
set_option maxHeartbeats 2000000
set_option linter.unusedVariables false
set_option linter.unusedSimpArgs false
set_option linter.unusedSectionVars false
noncomputable def bd_check_Check_64_0_0 (b4 : (List Gb)) (b4_1 : (List Gb)) (b4_2 : (List ByteArray)) (b4_3 : (List Th)) (b4_4 : ByteArray) (b4_5 : (List ByteArray)) (b4_6 : (List (RT.C 2))) (b3 : ByteArray) (b3_1 : (List ByteArray)) (b3_2 : (List (RT.C 2))) (b2 : ByteArray) (b2_1 : (List ByteArray)) (b2_2 : (List (RT.C 2))) (b0 : (List Gb)) (b0_1 : (List Gb)) (b0_2 : (List ByteArray)) (b0_3 : (List Th)) (s0 : (List (RT.C 2))) (i : Nat)  (d : (RT.C 2)) : Option (Unit ⊕ (X_check_Check_64_0_0_0 ⊕ X_check_Check_64_0_0_1)) :=
  optC (G_check_scope_stmt (((b4, b4_1, b4_2, b4_3), b4_4, b4_5, b4_6), uT2 d, ())) (none) fun d24 ↦
   bif !d24 then
   some (Sum.inr (Sum.inr ((i : Int), b4, b4_1, b4_2, b4_3, b4_4, b4_5, b4_6, b3, b3_1, b3_2, b2, b2_1, b2_2, b0, b0_1, b0_2, b0_3)))
 else some (Sum.inl ())
noncomputable def fn_check_Check_64_0_0 (b4 : (List Gb)) (b4_1 : (List Gb)) (b4_2 : (List ByteArray)) (b4_3 : (List Th)) (b4_4 : ByteArray) (b4_5 : (List ByteArray)) (b4_6 : (List (RT.C 2))) (b3 : ByteArray) (b3_1 : (List ByteArray)) (b3_2 : (List (RT.C 2))) (b2 : ByteArray) (b2_1 : (List ByteArray)) (b2_2 : (List (RT.C 2))) (b0 : (List Gb)) (b0_1 : (List Gb)) (b0_2 : (List ByteArray)) (b0_3 : (List Th)) (s0 : (List (RT.C 2)))  : Option (X_check_Check_64_0_0_0 ⊕ X_check_Check_64_0_0_1) :=
  some (Sum.inl (b4, b4_1, b4_2, b4_3, b4_4, b4_5, b4_6, b3, b3_1, b3_2, b2, b2_1, b2_2, b0, b0_1, b0_2, b0_3))
noncomputable abbrev rx_check_Check_64_0_0 (b4 : (List Gb)) (b4_1 : (List Gb)) (b4_2 : (List ByteArray)) (b4_3 : (List Th)) (b4_4 : ByteArray) (b4_5 : (List ByteArray)) (b4_6 : (List (RT.C 2))) (b3 : ByteArray) (b3_1 : (List ByteArray)) (b3_2 : (List (RT.C 2))) (b2 : ByteArray) (b2_1 : (List ByteArray)) (b2_2 : (List (RT.C 2))) (b0 : (List Gb)) (b0_1 : (List Gb)) (b0_2 : (List ByteArray)) (b0_3 : (List Th)) (s0 : (List (RT.C 2))) (i : Nat) (s : Unit) : X_check_Check_64_0_0 := (s0, (s0.length : Int), (i : Int), b4, b4_1, b4_2, b4_3, b4_4, b4_5, b4_6, b3, b3_1, b3_2, b2, b2_1, b2_2, b0, b0_1, b0_2, b0_3)
noncomputable def rv_check_Check_64_0_0 (b4 : (List Gb)) (b4_1 : (List Gb)) (b4_2 : (List ByteArray)) (b4_3 : (List Th)) (b4_4 : ByteArray) (b4_5 : (List ByteArray)) (b4_6 : (List (RT.C 2))) (b3 : ByteArray) (b3_1 : (List ByteArray)) (b3_2 : (List (RT.C 2))) (b2 : ByteArray) (b2_1 : (List ByteArray)) (b2_2 : (List (RT.C 2))) (b0 : (List Gb)) (b0_1 : (List Gb)) (b0_2 : (List ByteArray)) (b0_3 : (List Th)) (s0 : (List (RT.C 2))) (s : Unit) : Option (X_check_Check_64_0_0_0 ⊕ X_check_Check_64_0_0_1) := rangeO (fun i s d => bd_check_Check_64_0_0 b4 b4_1 b4_2 b4_3 b4_4 b4_5 b4_6 b3 b3_1 b3_2 b2 b2_1 b2_2 b0 b0_1 b0_2 b0_3 s0 i  d) (fun s => fn_check_Check_64_0_0 b4 b4_1 b4_2 b4_3 b4_4 b4_5 b4_6 b3 b3_1 b3_2 b2 b2_1 b2_2 b0 b0_1 b0_2 b0_3 s0 ) 0 s0 s
theorem rg_check_Check_64_0_0 (b4 : (List Gb)) (b4_1 : (List Gb)) (b4_2 : (List ByteArray)) (b4_3 : (List Th)) (b4_4 : ByteArray) (b4_5 : (List ByteArray)) (b4_6 : (List (RT.C 2))) (b3 : ByteArray) (b3_1 : (List ByteArray)) (b3_2 : (List (RT.C 2))) (b2 : ByteArray) (b2_1 : (List ByteArray)) (b2_2 : (List (RT.C 2))) (b0 : (List Gb)) (b0_1 : (List Gb)) (b0_2 : (List ByteArray)) (b0_3 : (List Th)) (s0 : (List (RT.C 2))) (s : Unit) (hl : s0.length < 9223372036854775807) : L_check_Check_64_0_0 (s0, (s0.length : Int), 0, b4, b4_1, b4_2, b4_3, b4_4, b4_5, b4_6, b3, b3_1, b3_2, b2, b2_1, b2_2, b0, b0_1, b0_2, b0_3) = rv_check_Check_64_0_0 b4 b4_1 b4_2 b4_3 b4_4 b4_5 b4_6 b3 b3_1 b3_2 b2 b2_1 b2_2 b0 b0_1 b0_2 b0_3 s0 s := by
  unfold L_check_Check_64_0_0 rv_check_Check_64_0_0
  refine iterO_range0 s0 (rx_check_Check_64_0_0 b4 b4_1 b4_2 b4_3 b4_4 b4_5 b4_6 b3 b3_1 b3_2 b2 b2_1 b2_2 b0 b0_1 b0_2 b0_3 s0) _ _ ?_ ?_ s (by unfold FUEL; omega)
  · intro i s d hi hd
    have e1 : decide ((i : Int) < (s0.length : Int)) = true := decide_eq_true (by omega)
    have e2 : decide (0 ≤ (i : Int)) = true := decide_eq_true (by omega)
    have e3 : Int.toNat (i : Int) = i := Int.toNat_natCast i
    have e4 := wrap_next hi (Nat.le_of_lt hl)
    show st_check_Check_64_0_0 (s0) ((s0.length : Int)) ((i : Int)) (b4) (b4_1) (b4_2) (b4_3) (b4_4) (b4_5) (b4_6) (b3) (b3_1) (b3_2) (b2) (b2_1) (b2_2) (b0) (b0_1) (b0_2) (b0_3) = upd _ (bd_check_Check_64_0_0 b4 b4_1 b4_2 b4_3 b4_4 b4_5 b4_6 b3 b3_1 b3_2 b2 b2_1 b2_2 b0 b0_1 b0_2 b0_3 s0 i  d)
    unfold st_check_Check_64_0_0 bd_check_Check_64_0_0
    simp only [e1, e2, e3, e4, hd, cond_true, cond_false, optC_some, upd_cond, upd_optC, upd_elim, upd_inl, upd_inr, upd_none]
  · intro s
    have e1 : decide ((s0.length : Int) < (s0.length : Int)) = false := decide_eq_false (by omega)
    show st_check_Check_64_0_0 (s0) ((s0.length : Int)) ((s0.length : Int)) (b4) (b4_1) (b4_2) (b4_3) (b4_4) (b4_5) (b4_6) (b3) (b3_1) (b3_2) (b2) (b2_1) (b2_2) (b0) (b0_1) (b0_2) (b0_3) = _
    unfold st_check_Check_64_0_0 fn_check_Check_64_0_0
    rw [e1]
    rfl
noncomputable def bd_check_Check_63_0_0  (s0 : (List Th)) (i : Nat) (b0 : (List Gb)) (b0_1 : (List Gb)) (b0_2 : (List ByteArray)) (b0_3 : (List Th)) (d : Th) : Option (((List Gb) × (List Gb) × (List ByteArray) × (List Th)) ⊕ (X_check_Check_63_0_0_0 ⊕ X_check_Check_63_0_0_1)) :=
  optC (L_check_Check_64_0_0 (d.2.2, (↑(List.length d.2.2) : Int), 0, b0, b0_1, b0_2, b0_3, d.1, d.2.1, d.2.2, d.1, d.2.1, d.2.2, d.1, d.2.1, d.2.2, b0, b0_1, b0_2, b0_3)) (none) fun d11 ↦
   Sum.elim (fun e12 ↦
   some (Sum.inl (e12.2.2.2.2.2.2.2.2.2.2.2.2.2.1, e12.2.2.2.2.2.2.2.2.2.2.2.2.2.2.1, e12.2.2.2.2.2.2.2.2.2.2.2.2.2.2.2.1, e12.2.2.2.2.2.2.2.2.2.2.2.2.2.2.2.2))) (fun e12 ↦
   bif !!decide (e12.1 ≥ 0) then
   some (Sum.inr (Sum.inr ((i : Int), e12.2.2.2.2.2.2.2.2.2.2.2.2.2.2.1, e12.2.2.2.2.2.2.2.2.2.2.2.2.2.2.2.1, e12.2.2.2.2.2.2.2.2.2.2.2.2.2.2.2.2.1, e12.2.2.2.2.2.2.2.2.2.2.2.2.2.2.2.2.2)))
 else some (Sum.inl (e12.2.2.2.2.2.2.2.2.2.2.2.2.2.2.1, e12.2.2.2.2.2.2.2.2.2.2.2.2.2.2.2.1, e12.2.2.2.2.2.2.2.2.2.2.2.2.2.2.2.2.1, e12.2.2.2.2.2.2.2.2.2.2.2.2.2.2.2.2.2))) d11
noncomputable def fn_check_Check_63_0_0  (s0 : (List Th)) (b0 : (List Gb)) (b0_1 : (List Gb)) (b0_2 : (List ByteArray)) (b0_3 : (List Th)) : Option (X_check_Check_63_0_0_0 ⊕ X_check_Check_63_0_0_1) :=
  some (Sum.inl (b0, b0_1, b0_2, b0_3))
noncomputable abbrev rx_check_Check_63_0_0  (s0 : (List Th)) (i : Nat) (s : ((List Gb) × (List Gb) × (List ByteArray) × (List Th))) : X_check_Check_63_0_0 := (s0, (s0.length : Int), (i : Int), s.1, s.2.1, s.2.2.1, s.2.2.2)
noncomputable def rv_check_Check_63_0_0  (s0 : (List Th)) (s : ((List Gb) × (List Gb) × (List ByteArray) × (List Th))) : Option (X_check_Check_63_0_0_0 ⊕ X_check_Check_63_0_0_1) := rangeO (fun i s d => bd_check_Check_63_0_0  s0 i s.1 s.2.1 s.2.2.1 s.2.2.2 d) (fun s => fn_check_Check_63_0_0  s0 s.1 s.2.1 s.2.2.1 s.2.2.2) 0 s0 s
theorem rg_check_Check_63_0_0  (s0 : (List Th)) (s : ((List Gb) × (List Gb) × (List ByteArray) × (List Th))) (hl : s0.length < 9223372036854775807) : L_check_Check_63_0_0 (s0, (s0.length : Int), 0, s.1, s.2.1, s.2.2.1, s.2.2.2) = rv_check_Check_63_0_0  s0 s := by
  unfold L_check_Check_63_0_0 rv_check_Check_63_0_0
  refine iterO_range0 s0 (rx_check_Check_63_0_0  s0) _ _ ?_ ?_ s (by unfold FUEL; omega)
  · intro i s d hi hd
    have e1 : decide ((i : Int) < (s0.length : Int)) = true := decide_eq_true (by omega)
    have e2 : decide (0 ≤ (i : Int)) = true := decide_eq_true (by omega)
    have e3 : Int.toNat (i : Int) = i := Int.toNat_natCast i
    have e4 := wrap_next hi (Nat.le_of_lt hl)
    show st_check_Check_63_0_0 (s0) ((s0.length : Int)) ((i : Int)) (s.1) (s.2.1) (s.2.2.1) (s.2.2.2) = upd _ (bd_check_Check_63_0_0  s0 i s.1 s.2.1 s.2.2.1 s.2.2.2 d)
    unfold st_check_Check_63_0_0 bd_check_Check_63_0_0
    simp only [e1, e2, e3, e4, hd, cond_true, cond_false, optC_some, upd_cond, upd_optC, upd_elim, upd_inl, upd_inr, upd_none]
  · intro s
    have e1 : decide ((s0.length : Int) < (s0.length : Int)) = false := decide_eq_false (by omega)
    show st_check_Check_63_0_0 (s0) ((s0.length : Int)) ((s0.length : Int)) (s.1) (s.2.1) (s.2.2.1) (s.2.2.2) = _
    unfold st_check_Check_63_0_0 fn_check_Check_63_0_0
    rw [e1]
    rfl
end Go.Proofs.YtmjbedjnojcmfaaDoor.Ex

namespace Go.Proofs.YtmjbedjnojcmfaaDoor.Ex
open Go.Proofs Go.Proofs.YtmjbedjnojcmfaaDoor
set_option maxRecDepth 100000
set_option maxHeartbeats 2000000
set_option linter.unusedVariables false
set_option linter.unusedSimpArgs false
def ash_ref7_Check : List Sh := [.dat tPg]
def kp_ref7_Check_9_0 : Nat → List Nat := fun c => bif c.beq 0 then [1, 3, 4] else [1, 3]
def kp_ref7_Check_9_3 : Nat → List Nat := fun c => bif c.beq 0 then [1, 5] else [2]
noncomputable def sp_ref7_Check : List Con := [⟨18, con_ref7_shape, snd_ref7_shape⟩, ⟨19, con_ref7_alone, snd_ref7_alone⟩, ⟨20, con_ref7_uses, snd_ref7_uses⟩]
def s_ref7_Check_9_0_0 : StS := ⟨[(1, .ptr 0 0), (3, .bool), (4, .int .i64)], [(0, .box [.sl tGb, .sl tGb, .sl .str, .sl tTh])], 1⟩
def x_ref7_Check_9_0_0_0 : StS := ⟨[(1, .ptr 0 0), (3, .bool)], [(0, .box [.sl tGb, .sl tGb, .sl .str, .sl tTh])], 1⟩
abbrev X_ref7_Check_9_0_0 := (Bool × Int × (List Gb) × (List Gb) × (List ByteArray) × (List Th))
def fl_ref7_Check_9_0_0 (d : StD s_ref7_Check_9_0_0) : X_ref7_Check_9_0_0 := (d.1.2.1, d.1.2.2.1, d.2.1.1, d.2.1.2.1, d.2.1.2.2.1, d.2.1.2.2.2.1)
def un_ref7_Check_9_0_0 (x : X_ref7_Check_9_0_0) : StD s_ref7_Check_9_0_0 := (((), x.1, x.2.1, ()), ((x.2.2.1, x.2.2.2.1, x.2.2.2.2.1, x.2.2.2.2.2, ()), ()))
abbrev X_ref7_Check_9_0_0_0 := (Bool × (List Gb) × (List Gb) × (List ByteArray) × (List Th))
def fl_ref7_Check_9_0_0_0 (d : StD x_ref7_Check_9_0_0_0) : X_ref7_Check_9_0_0_0 := (d.1.2.1, d.2.1.1, d.2.1.2.1, d.2.1.2.2.1, d.2.1.2.2.2.1)
def un_ref7_Check_9_0_0_0 (x : X_ref7_Check_9_0_0_0) : StD x_ref7_Check_9_0_0_0 := (((), x.1, ()), ((x.2.1, x.2.2.1, x.2.2.2.1, x.2.2.2.2, ()), ()))
noncomputable def st_ref7_Check_9_0_0 (s3 : Bool) (s4 : Int) (b0 : (List Gb)) (b0_1 : (List Gb)) (b0_2 : (List ByteArray)) (b0_3 : (List Th)) : Option ((Bool × Int × (List Gb) × (List Gb) × (List ByteArray) × (List Th)) ⊕ (Bool × (List Gb) × (List Gb) × (List ByteArray) × (List Th))) :=
  bif decide (s4 < (↑b0_3.length : Int)) then
 bif s3 then some (Sum.inl (true, Go.IntKind.i64.wrap (s4 + 1), b0, b0_1, b0_2, b0_3))
 else
 bif decide (0 ≤ s4) then
 optC b0_3[s4.toNat]? none fun d9 ↦ some (Sum.inl (decide ((↑(List.length d9.2.1) : Int) > 6), Go.IntKind.i64.wrap (s4 + 1), b0, b0_1, b0_2, b0_3))
 else none
 else some (Sum.inr (s3, b0, b0_1, b0_2, b0_3))
noncomputable def sx_ref7_Check_9_0_0 (x : X_ref7_Check_9_0_0) : Option (X_ref7_Check_9_0_0 ⊕ X_ref7_Check_9_0_0_0) := st_ref7_Check_9_0_0 x.1 x.2.1 x.2.2.1 x.2.2.2.1 x.2.2.2.2.1 x.2.2.2.2.2
theorem rn_ref7_Check_9_0_0 (x : X_ref7_Check_9_0_0) : rdX (cxU sp_ref7_Check [] 40 1048576) keeps 8 ⟨9, 77, keeps 9, 0⟩ 0 (bodyX 9 0) 0 kp_ref7_Check_9_0 (sT s_ref7_Check_9_0_0 (un_ref7_Check_9_0_0 x)) (sH s_ref7_Check_9_0_0 (un_ref7_Check_9_0_0 x)) (rdO (fun T h => (rdS s_ref7_Check_9_0_0 T h).map fl_ref7_Check_9_0_0) (getE 2 x_ref7_Check_9_0_0_0 fl_ref7_Check_9_0_0_0)) = sx_ref7_Check_9_0_0 x := by kernel_rfl
noncomputable def L_ref7_Check_9_0_0 (x : X_ref7_Check_9_0_0) : Option X_ref7_Check_9_0_0_0 := iterO (fun x => st_ref7_Check_9_0_0 x.1 x.2.1 x.2.2.1 x.2.2.2.1 x.2.2.2.2.1 x.2.2.2.2.2) FUEL x
noncomputable def q_ref7_Check_9_0 : Nat → Tm → Prog (Nat × Tm) := (varP 0 (fun T h => (rdS s_ref7_Check_9_0_0 T h).map fl_ref7_Check_9_0_0) L_ref7_Check_9_0_0 (altE 2 x_ref7_Check_9_0_0_0 un_ref7_Check_9_0_0_0) (fun _ _ => .fail))
noncomputable def lc_ref7_Check_9_0 : Lpc := ⟨9, 0, 77, (fun base T => .norm base (kp_ref7_Check_9_0 0) T (q_ref7_Check_9_0 base)), by kernel_rfl, by kernel_rfl, (loopU sp_ref7_Check [] 40 1048576 8 (keep := kp_ref7_Check_9_0) (q := q_ref7_Check_9_0) (by kernel_rfl) (varX_ok (s := s_ref7_Check_9_0_0) (un := un_ref7_Check_9_0_0) (by rfl) (fun _ => rfl) (getE_ok (s := x_ref7_Check_9_0_0_0) (un := un_ref7_Check_9_0_0_0) (by rfl) (fun _ => rfl)) (step := sx_ref7_Check_9_0_0) rn_ref7_Check_9_0_0 (fun _ _ e => ⟨_, e⟩) (altE_ok 2 x_ref7_Check_9_0_0_0 un_ref7_Check_9_0_0_0) (VarOk.fail _ _)))⟩
noncomputable abbrev cx_ref7_Check_9_3 := cxU sp_ref7_Check [lc_ref7_Check_9_0] 40 1048576
def s_ref7_Check_9_3_0 : StS := ⟨[(1, .ptr 0 0), (5, .int .i64)], [(0, .box [.sl tGb, .sl tGb, .sl .str, .sl tTh])], 1⟩
def x_ref7_Check_9_3_0_0 : StS := ⟨[(2, .undef)], [], 0⟩
def x_ref7_Check_9_3_0_1 : StS := ⟨[(2, .int .i64)], [], 0⟩
abbrev X_ref7_Check_9_3_0 := (Int × (List Gb) × (List Gb) × (List ByteArray) × (List Th))
def fl_ref7_Check_9_3_0 (d : StD s_ref7_Check_9_3_0) : X_ref7_Check_9_3_0 := (d.1.2.1, d.2.1.1, d.2.1.2.1, d.2.1.2.2.1, d.2.1.2.2.2.1)
def un_ref7_Check_9_3_0 (x : X_ref7_Check_9_3_0) : StD s_ref7_Check_9_3_0 := (((), x.1, ()), ((x.2.1, x.2.2.1, x.2.2.2.1, x.2.2.2.2, ()), ()))
abbrev X_ref7_Check_9_3_0_0 := Unit
def fl_ref7_Check_9_3_0_0 (d : StD x_ref7_Check_9_3_0_0) : X_ref7_Check_9_3_0_0 := ()
def un_ref7_Check_9_3_0_0 (x : X_ref7_Check_9_3_0_0) : StD x_ref7_Check_9_3_0_0 := (((), ()), ())
abbrev X_ref7_Check_9_3_0_1 := Int
def fl_ref7_Check_9_3_0_1 (d : StD x_ref7_Check_9_3_0_1) : X_ref7_Check_9_3_0_1 := (d.1.1)
def un_ref7_Check_9_3_0_1 (x : X_ref7_Check_9_3_0_1) : StD x_ref7_Check_9_3_0_1 := ((x, ()), ())
noncomputable def st_ref7_Check_9_3_0 (s5 : Int) (b0 : (List Gb)) (b0_1 : (List Gb)) (b0_2 : (List ByteArray)) (b0_3 : (List Th)) : Option ((Int × (List Gb) × (List Gb) × (List ByteArray) × (List Th)) ⊕ (Unit ⊕ Int)) :=
  bif decide (s5 < (↑b0_3.length : Int)) then
 bif decide (0 ≤ s5) then
 optC b0_3[s5.toNat]? none fun d8 ↦
 bif decide (0 ≤ s5) then
 optC b0_3[s5.toNat]? none fun d9 ↦
 optC (G_ref7_uses ((b0, b0_1, b0_2, b0_3), d8, d9.2.2, ())) none fun d10 ↦
 bif !d10 then some (Sum.inr (Sum.inr 6)) else some (Sum.inl (Go.IntKind.i64.wrap (s5 + 1), b0, b0_1, b0_2, b0_3))
 else none
 else none
 else some (Sum.inr (Sum.inl PUnit.unit))
noncomputable def sx_ref7_Check_9_3_0 (x : X_ref7_Check_9_3_0) : Option (X_ref7_Check_9_3_0 ⊕ (X_ref7_Check_9_3_0_0 ⊕ X_ref7_Check_9_3_0_1)) := st_ref7_Check_9_3_0 x.1 x.2.1 x.2.2.1 x.2.2.2.1 x.2.2.2.2
theorem rn_ref7_Check_9_3_0 (x : X_ref7_Check_9_3_0) : rdX cx_ref7_Check_9_3 keeps 8 ⟨9, 77, keeps 9, 0⟩ 3 (bodyX 9 3) 0 kp_ref7_Check_9_3 (sT s_ref7_Check_9_3_0 (un_ref7_Check_9_3_0 x)) (sH s_ref7_Check_9_3_0 (un_ref7_Check_9_3_0 x)) (rdO (fun T h => (rdS s_ref7_Check_9_3_0 T h).map fl_ref7_Check_9_3_0) (getOr (getE 5 x_ref7_Check_9_3_0_0 fl_ref7_Check_9_3_0_0) (getE 1 x_ref7_Check_9_3_0_1 fl_ref7_Check_9_3_0_1))) = sx_ref7_Check_9_3_0 x := by kernel_rfl
noncomputable def L_ref7_Check_9_3_0 (x : X_ref7_Check_9_3_0) : Option (X_ref7_Check_9_3_0_0 ⊕ X_ref7_Check_9_3_0_1) := iterO (fun x => st_ref7_Check_9_3_0 x.1 x.2.1 x.2.2.1 x.2.2.2.1 x.2.2.2.2) FUEL x
noncomputable def q_ref7_Check_9_3 : Nat → Tm → Prog (Nat × Tm) := (varP 0 (fun T h => (rdS s_ref7_Check_9_3_0 T h).map fl_ref7_Check_9_3_0) L_ref7_Check_9_3_0 (fun y => .alt y (altE 5 x_ref7_Check_9_3_0_0 un_ref7_Check_9_3_0_0) (altE 1 x_ref7_Check_9_3_0_1 un_ref7_Check_9_3_0_1)) (fun _ _ => .fail))
noncomputable def lc_ref7_Check_9_3 : Lpc := ⟨9, 3, 77, (fun base T => .norm base (kp_ref7_Check_9_3 0) T (q_ref7_Check_9_3 base)), by kernel_rfl, by kernel_rfl, (loopU sp_ref7_Check [lc_ref7_Check_9_0] 40 1048576 8 (keep := kp_ref7_Check_9_3) (q := q_ref7_Check_9_3) (by kernel_rfl) (varX_ok (s := s_ref7_Check_9_3_0) (un := un_ref7_Check_9_3_0) (by rfl) (fun _ => rfl) (getOr_ok (getE_ok (s := x_ref7_Check_9_3_0_0) (un := un_ref7_Check_9_3_0_0) (by rfl) (fun _ => rfl)) (getE_ok (s := x_ref7_Check_9_3_0_1) (un := un_ref7_Check_9_3_0_1) (by rfl) (fun _ => rfl))) (step := sx_ref7_Check_9_3_0) rn_ref7_Check_9_3_0 (fun _ _ e => ⟨_, e⟩) (altOr_ok (altE_ok 5 x_ref7_Check_9_3_0_0 un_ref7_Check_9_3_0_0) (altE_ok 1 x_ref7_Check_9_3_0_1 un_ref7_Check_9_3_0_1)) (VarOk.fail _ _)))⟩
noncomputable def g_ref7_Check (a0 : Pg) : Option Int :=
  bif decide ((↑(List.length a0.1) : Int) > 6) then
 optC (L_ref7_Check_9_0_0 (true, 0, a0)) none fun d4 ↦
 bif d4.1 then some 4
 else
 optC (G_ref7_shape (d4.2, ())) none fun d5 ↦
 bif !d5 then some 2
 else
 optC (G_ref7_alone (d4.2, ())) none fun d6 ↦
 bif !d6 then some 5 else optC (L_ref7_Check_9_3_0 (0, d4.2)) none fun d7 ↦ Sum.elim (fun e8 ↦ some 0) (fun e8 ↦ some e8) d7
 else
 bif decide ((↑(List.length a0.2.1) : Int) > 3) then
 optC (L_ref7_Check_9_0_0 (true, 0, a0)) none fun d4 ↦
 bif d4.1 then some 4
 else
 optC (G_ref7_shape (d4.2, ())) none fun d5 ↦
 bif !d5 then some 2
 else
 optC (G_ref7_alone (d4.2, ())) none fun d6 ↦
 bif !d6 then some 5 else optC (L_ref7_Check_9_3_0 (0, d4.2)) none fun d7 ↦ Sum.elim (fun e8 ↦ some 0) (fun e8 ↦ some e8) d7
 else
 bif decide ((↑(List.length a0.2.2.1) : Int) > 6) then
 optC (L_ref7_Check_9_0_0 (true, 0, a0)) none fun d4 ↦
 bif d4.1 then some 4
 else
 optC (G_ref7_shape (d4.2, ())) none fun d5 ↦
 bif !d5 then some 2
 else
 optC (G_ref7_alone (d4.2, ())) none fun d6 ↦
 bif !d6 then some 5 else optC (L_ref7_Check_9_3_0 (0, d4.2)) none fun d7 ↦ Sum.elim (fun e8 ↦ some 0) (fun e8 ↦ some e8) d7
 else
 optC (L_ref7_Check_9_0_0 (decide ((↑(List.length a0.2.2.2) : Int) > 4), 0, a0)) none fun d4 ↦
 bif d4.1 then some 4
 else
 optC (G_ref7_shape (d4.2, ())) none fun d5 ↦
 bif !d5 then some 2
 else
 optC (G_ref7_alone (d4.2, ())) none fun d6 ↦
 bif !d6 then some 5 else optC (L_ref7_Check_9_3_0 (0, d4.2)) none fun d7 ↦ Sum.elim (fun e8 ↦ some 0) (fun e8 ↦ some e8) d7
theorem raw_ref7_Check (a0 : Pg) : evGX (cxU sp_ref7_Check [lc_ref7_Check_9_0, lc_ref7_Check_9_3] 40 1048576) keeps 8 9 ash_ref7_Check (.dat (.int .i64)) ((a0, ()) : (Pg × Unit)) = g_ref7_Check a0 := by kernel_rfl
noncomputable def G_ref7_Check (x : (Pg × Unit)) : Option Int := g_ref7_Check x.1
noncomputable def con_ref7_Check : List AV → Prog AV := conP false ash_ref7_Check (.dat (.int .i64)) G_ref7_Check
theorem snd_ref7_Check : SoundA Tryd.prog 9 con_ref7_Check := conP_sound (calU sp_ref7_Check [lc_ref7_Check_9_0, lc_ref7_Check_9_3] 40 1048576 8 9) false (by rfl) (by rfl) (fun x r e => (evGX_eq _ _ _ _ _ _ _).trans ((raw_ref7_Check x.1).trans e)) (.inr fun _ => rfl)
end Go.Proofs.YtmjbedjnojcmfaaDoor.Ex

namespace Go.Proofs.YtmjbedjnojcmfaaDoor.Ex
set_option maxRecDepth 100000
set_option maxHeartbeats 2000000
set_option linter.unusedVariables false
set_option linter.unusedSimpArgs false
set_option linter.unusedSectionVars false
noncomputable def bd_ref7_Check_9_0_0 (b0 : (List Gb)) (b0_1 : (List Gb)) (b0_2 : (List ByteArray)) (b0_3 : (List Th)) (i : Nat) (s3 : Bool) (d : Th) : Option (Bool ⊕ X_ref7_Check_9_0_0_0) :=
  bif s3 then
   some (Sum.inl (true))
 else some (Sum.inl (decide ((↑(List.length d.2.1) : Int) > 6)))
noncomputable def fn_ref7_Check_9_0_0 (b0 : (List Gb)) (b0_1 : (List Gb)) (b0_2 : (List ByteArray)) (b0_3 : (List Th)) (s3 : Bool) : Option X_ref7_Check_9_0_0_0 :=
  some (s3, b0, b0_1, b0_2, b0_3)
noncomputable abbrev rx_ref7_Check_9_0_0 (b0 : (List Gb)) (b0_1 : (List Gb)) (b0_2 : (List ByteArray)) (b0_3 : (List Th)) (i : Nat) (s : Bool) : X_ref7_Check_9_0_0 := (s, (i : Int), b0, b0_1, b0_2, b0_3)
noncomputable def rv_ref7_Check_9_0_0 (b0 : (List Gb)) (b0_1 : (List Gb)) (b0_2 : (List ByteArray)) (b0_3 : (List Th)) (s : Bool) : Option X_ref7_Check_9_0_0_0 := rangeO (fun i s d => bd_ref7_Check_9_0_0 b0 b0_1 b0_2 b0_3 i s d) (fun s => fn_ref7_Check_9_0_0 b0 b0_1 b0_2 b0_3 s) 0 b0_3 s
theorem rg_ref7_Check_9_0_0 (b0 : (List Gb)) (b0_1 : (List Gb)) (b0_2 : (List ByteArray)) (b0_3 : (List Th)) (s : Bool) (hl : b0_3.length < 9223372036854775807) : L_ref7_Check_9_0_0 (s, 0, b0, b0_1, b0_2, b0_3) = rv_ref7_Check_9_0_0 b0 b0_1 b0_2 b0_3 s := by
  unfold L_ref7_Check_9_0_0 rv_ref7_Check_9_0_0
  refine iterO_range0 b0_3 (rx_ref7_Check_9_0_0 b0 b0_1 b0_2 b0_3) _ _ ?_ ?_ s (by unfold FUEL; omega)
  · intro i s d hi hd
    have e1 : decide ((i : Int) < (b0_3.length : Int)) = true := decide_eq_true (by omega)
    have e2 : decide (0 ≤ (i : Int)) = true := decide_eq_true (by omega)
    have e3 : Int.toNat (i : Int) = i := Int.toNat_natCast i
    have e4 := wrap_next hi (Nat.le_of_lt hl)
    show st_ref7_Check_9_0_0 (s) ((i : Int)) (b0) (b0_1) (b0_2) (b0_3) = upd _ (bd_ref7_Check_9_0_0 b0 b0_1 b0_2 b0_3 i s d)
    unfold st_ref7_Check_9_0_0 bd_ref7_Check_9_0_0
    simp only [e1, e2, e3, e4, hd, cond_true, cond_false, optC_some, upd_cond, upd_optC, upd_elim, upd_inl, upd_inr, upd_none]
  · intro s
    have e1 : decide ((b0_3.length : Int) < (b0_3.length : Int)) = false := decide_eq_false (by omega)
    show st_ref7_Check_9_0_0 (s) ((b0_3.length : Int)) (b0) (b0_1) (b0_2) (b0_3) = _
    unfold st_ref7_Check_9_0_0 fn_ref7_Check_9_0_0
    rw [e1]
    rfl
noncomputable def bd_ref7_Check_9_3_0 (b0 : (List Gb)) (b0_1 : (List Gb)) (b0_2 : (List ByteArray)) (b0_3 : (List Th)) (i : Nat)  (d : Th) : Option (Unit ⊕ (X_ref7_Check_9_3_0_0 ⊕ X_ref7_Check_9_3_0_1)) :=
  optC (G_ref7_uses ((b0, b0_1, b0_2, b0_3), d, d.2.2, ())) (none) fun d10 ↦
   bif !d10 then
   some (Sum.inr (Sum.inr 6))
 else some (Sum.inl ())
noncomputable def fn_ref7_Check_9_3_0 (b0 : (List Gb)) (b0_1 : (List Gb)) (b0_2 : (List ByteArray)) (b0_3 : (List Th))  : Option (X_ref7_Check_9_3_0_0 ⊕ X_ref7_Check_9_3_0_1) :=
  some (Sum.inl PUnit.unit)
noncomputable abbrev rx_ref7_Check_9_3_0 (b0 : (List Gb)) (b0_1 : (List Gb)) (b0_2 : (List ByteArray)) (b0_3 : (List Th)) (i : Nat) (s : Unit) : X_ref7_Check_9_3_0 := ((i : Int), b0, b0_1, b0_2, b0_3)
noncomputable def rv_ref7_Check_9_3_0 (b0 : (List Gb)) (b0_1 : (List Gb)) (b0_2 : (List ByteArray)) (b0_3 : (List Th)) (s : Unit) : Option (X_ref7_Check_9_3_0_0 ⊕ X_ref7_Check_9_3_0_1) := rangeO (fun i s d => bd_ref7_Check_9_3_0 b0 b0_1 b0_2 b0_3 i  d) (fun s => fn_ref7_Check_9_3_0 b0 b0_1 b0_2 b0_3 ) 0 b0_3 s
theorem rg_ref7_Check_9_3_0 (b0 : (List Gb)) (b0_1 : (List Gb)) (b0_2 : (List ByteArray)) (b0_3 : (List Th)) (s : Unit) (hl : b0_3.length < 9223372036854775807) : L_ref7_Check_9_3_0 (0, b0, b0_1, b0_2, b0_3) = rv_ref7_Check_9_3_0 b0 b0_1 b0_2 b0_3 s := by
  unfold L_ref7_Check_9_3_0 rv_ref7_Check_9_3_0
  refine iterO_range0 b0_3 (rx_ref7_Check_9_3_0 b0 b0_1 b0_2 b0_3) _ _ ?_ ?_ s (by unfold FUEL; omega)
  · intro i s d hi hd
    have e1 : decide ((i : Int) < (b0_3.length : Int)) = true := decide_eq_true (by omega)
    have e2 : decide (0 ≤ (i : Int)) = true := decide_eq_true (by omega)
    have e3 : Int.toNat (i : Int) = i := Int.toNat_natCast i
    have e4 := wrap_next hi (Nat.le_of_lt hl)
    show st_ref7_Check_9_3_0 ((i : Int)) (b0) (b0_1) (b0_2) (b0_3) = upd _ (bd_ref7_Check_9_3_0 b0 b0_1 b0_2 b0_3 i  d)
    unfold st_ref7_Check_9_3_0 bd_ref7_Check_9_3_0
    simp only [e1, e2, e3, e4, hd, cond_true, cond_false, optC_some, upd_cond, upd_optC, upd_elim, upd_inl, upd_inr, upd_none]
  · intro s
    have e1 : decide ((b0_3.length : Int) < (b0_3.length : Int)) = false := decide_eq_false (by omega)
    show st_ref7_Check_9_3_0 ((b0_3.length : Int)) (b0) (b0_1) (b0_2) (b0_3) = _
    unfold st_ref7_Check_9_3_0 fn_ref7_Check_9_3_0
    rw [e1]
    rfl
end Go.Proofs.YtmjbedjnojcmfaaDoor.Ex

namespace Go.Proofs.YtmjbedjnojcmfaaDoor.Ex
set_option maxRecDepth 100000
set_option linter.unusedVariables false
set_option linter.unusedSimpArgs false
def usesB (p : Pg) : Bool := p.2.2.2.all fun t => t.2.2.all (smU p.1 p.2.1 p.2.2.1 t.2.1)
def checkV (p : Pg) : Int := bif !fitsB p then 4 else bif !formB p then 2 else bif !aloneB p then 5 else bif usesB p then 0 else 6
theorem n_check (p : Pg) (hp : okP p) : g_check_Check p = some (checkV p) := by
  have hu : ∃ j : Nat, L_check_Check_63_0_0 (p.2.2.2, (p.2.2.2.length : Int), 0, p) = bif usesB p then some (.inl p) else some (.inr ((j : Int), p)) := by
    obtain ⟨pg, pa, pm, pt⟩ := p
    obtain ⟨j, q⟩ := rangeO_badS (f := fun i (s : Pg) d => bd_check_Check_63_0_0 pt i s.1 s.2.1 s.2.2.1 s.2.2.2 d) (fin := fun s => fn_check_Check_63_0_0 pt s.1 s.2.1 s.2.2.1 s.2.2.2) (p := fun t : Th => t.2.2.all (smU pg pa pm t.2.1)) (o := fun i => .inr ((i : Int), pg, pa, pm, pt)) (s := (pg, pa, pm, pt)) pt 0 fun j d hd => by
      have ht := hp.ts d (List.mem_of_getElem? hd)
      obtain ⟨tn, tl, tb⟩ := d
      have S : okS pg pa pm tl := ⟨hp.g, hp.a, hp.m, ht.l⟩
      obtain ⟨j', q'⟩ := rangeO_bad (f := fun i _ d => bd_check_Check_64_0_0 pg pa pm pt tn tl tb tn tl tb tn tl tb pg pa pm pt tb i d) (fin := fun _ => fn_check_Check_64_0_0 pg pa pm pt tn tl tb tn tl tb tn tl tb pg pa pm pt tb) (p := smU pg pa pm tl) (o := fun i => .inr ((i : Int), pg, pa, pm, pt, tn, tl, tb, tn, tl, tb, tn, tl, tb, pg, pa, pm, pt)) tb 0 fun j d hd => by
        unfold bd_check_Check_64_0_0
        simp only [n_ustmt (pt := pt) (tn := tn) (tb := tb) S d (ht.bs d (List.mem_of_getElem? hd)), optC_some]
        cases smU pg pa pm tl d <;> rfl
      have z' : L_check_Check_64_0_0 (tb, (tb.length : Int), 0, pg, pa, pm, pt, tn, tl, tb, tn, tl, tb, tn, tl, tb, pg, pa, pm, pt) = bif tb.all (smU pg pa pm tl) then some (.inl (pg, pa, pm, pt, tn, tl, tb, tn, tl, tb, tn, tl, tb, pg, pa, pm, pt)) else some (.inr ((j' : Int), pg, pa, pm, pt, tn, tl, tb, tn, tl, tb, tn, tl, tb, pg, pa, pm, pt)) := (rg_check_Check_64_0_0 pg pa pm pt tn tl tb tn tl tb tn tl tb pg pa pm pt tb () ht.b).trans q'
      have dj : decide ((j' : Int) ≥ 0) = true := decide_eq_true (by omega)
      unfold bd_check_Check_63_0_0
      simp only [z']
      cases tb.all (smU pg pa pm tl)
      · simp only [cond_false, optC_some, Sum.elim_inr, dj, Bool.not_true, Bool.not_false, cond_true]
      · rfl
    exact ⟨j, (rg_check_Check_63_0_0 pt (pg, pa, pm, pt) hp.t).trans q⟩
  obtain ⟨j, hu⟩ := hu
  have dj : decide ((j : Int) ≥ 0) = true := decide_eq_true (by omega)
  unfold g_check_Check checkV
  simp only [G_check_fits, n_fits p hp, G_check_isForm, n_isForm p hp, G_check_isAlone, optC_some, hu]
  cases hf : fitsB p
  · rfl
  rw [n_isAlone p hf]
  cases formB p
  · rfl
  cases aloneB p
  · rfl
  cases usesB p
  · simp only [Bool.not_true, cond_false, optC_some, Sum.elim_inr, dj, Bool.not_false, cond_true]
  · rfl
theorem rangeO_or {α Y : Type} {f : Nat → Bool → α → Option (Bool ⊕ Y)} {fin : Bool → Option Y} {q : α → Bool} : ∀ (l : List α) (i : Nat) (s : Bool), (∀ i s d, f i s d = bif s then some (.inl true) else some (.inl (q d))) → rangeO f fin i l s = fin (s || l.any q)
  | [], _, s, _ => by rw [List.any_nil, Bool.or_false]; rfl
  | d :: r, i, s, h => by
    rw [rangeO, h i s d, List.any_cons]
    cases s
    · exact (rangeO_or r (i + 1) (q d) h).trans (by rw [Bool.false_or])
    · exact (rangeO_or r (i + 1) true h).trans (by rw [Bool.true_or, Bool.true_or])
theorem any_not {α : Type} {p q : α → Bool} (h : ∀ d, q d = !p d) (l : List α) : l.any q = !(l.all p) := by
  induction l with
  | nil => rfl
  | cons d r ih => rw [List.any_cons, List.all_cons, ih, h d]; cases p d <;> rfl
theorem n_ref_check (p : Pg) (hp : okP p) : g_ref7_Check p = some (checkV p) := by
  have zL : ∀ s : Bool, L_ref7_Check_9_0_0 (s, 0, p) = some (s || !(p.2.2.2.all fun t => decide ((t.2.1.length : Int) ≤ 6)), p) := fun s => by
    obtain ⟨pg, pa, pm, pt⟩ := p
    refine (rg_ref7_Check_9_0_0 pg pa pm pt s hp.t).trans ?_
    unfold rv_ref7_Check_9_0_0
    refine (rangeO_or (f := fun i s d => bd_ref7_Check_9_0_0 pg pa pm pt i s d) (q := fun t : Th => decide ((t.2.1.length : Int) > 6)) pt 0 s fun i s d => rfl).trans ?_
    rw [any_not (p := fun t : Th => decide ((t.2.1.length : Int) ≤ 6)) (fun d => by rw [Bool.eq_iff_iff]; simp) pt]
    rfl
  have hu : L_ref7_Check_9_3_0 (0, p) = bif usesB p then some (.inl ()) else some (.inr 6) := by
    obtain ⟨pg, pa, pm, pt⟩ := p
    obtain ⟨_, q⟩ := rangeO_bad (f := fun i _ d => bd_ref7_Check_9_3_0 pg pa pm pt i d) (fin := fun _ => fn_ref7_Check_9_3_0 pg pa pm pt) (p := fun t : Th => t.2.2.all (smU pg pa pm t.2.1)) (o := fun _ => .inr 6) pt 0 fun j d hd => by
      have ht := hp.ts d (List.mem_of_getElem? hd)
      obtain ⟨tn, tl, tb⟩ := d
      have S : okS pg pa pm tl := ⟨hp.g, hp.a, hp.m, ht.l⟩
      unfold bd_ref7_Check_9_3_0
      simp only [n_ref_uses (pt := pt) (tn := tn) (tb := tb) S tb ht.b ht.bs, optC_some]
      cases tb.all (smU pg pa pm tl) <;> rfl
    exact (rg_ref7_Check_9_3_0 pg pa pm pt () hp.t).trans q
  have tail : (optC (G_ref7_shape (p, ())) none fun d5 => bif !d5 then some 2 else optC (G_ref7_alone (p, ())) none fun d6 => bif !d6 then some 5 else optC (L_ref7_Check_9_3_0 (0, p)) none fun d7 => Sum.elim (fun e8 => some 0) (fun e8 => some e8) d7) = (optC (g_ref7_shape p) none fun d5 => bif !d5 then some 2 else optC (g_ref7_alone p) none fun d6 => bif !d6 then some 5 else bif usesB p then some (0 : Int) else some 6) := by
    simp only [G_ref7_shape, G_ref7_alone, hu]
    cases usesB p <;> rfl
  unfold g_ref7_Check
  simp only [zL, optC_some, tail]
  unfold checkV
  by_cases h1 : (p.1.length : Int) > 6
  · have : fitsB p = false := by unfold fitsB; rw [decide_eq_false (show ¬ (p.1.length : Int) ≤ 6 by omega)]; rfl
    rw [decide_eq_true h1, this]; rfl
  by_cases h2 : (p.2.1.length : Int) > 3
  · have : fitsB p = false := by unfold fitsB; rw [decide_eq_false (show ¬ (p.2.1.length : Int) ≤ 3 by omega), Bool.false_and, Bool.and_false]
    rw [decide_eq_false h1, decide_eq_true h2, this]; rfl
  by_cases h3 : (p.2.2.1.length : Int) > 6
  · have : fitsB p = false := by unfold fitsB; rw [decide_eq_false (show ¬ (p.2.2.1.length : Int) ≤ 6 by omega), Bool.false_and, Bool.and_false, Bool.and_false]
    rw [decide_eq_false h1, decide_eq_false h2, decide_eq_true h3, this]; rfl
  have hf : fitsB p = !(decide ((p.2.2.2.length : Int) > 4) || !(p.2.2.2.all fun t => decide ((t.2.1.length : Int) ≤ 6))) := by
    unfold fitsB
    rw [decide_eq_true (show (p.1.length : Int) ≤ 6 by omega), decide_eq_true (show (p.2.1.length : Int) ≤ 3 by omega), decide_eq_true (show (p.2.2.1.length : Int) ≤ 6 by omega), Bool.not_or, Bool.not_not, gtB]
    rfl
  rw [decide_eq_false h1, decide_eq_false h2, decide_eq_false h3]
  simp only [cond_false]
  cases hq : (decide ((p.2.2.2.length : Int) > 4) || !(p.2.2.2.all fun t => decide ((t.2.1.length : Int) ≤ 6)))
  · rw [hq] at hf
    have hf : fitsB p = true := hf
    rw [hf, n_shape p hp]
    cases hF : formB p
    · rfl
    · have hn : p.2.2.2 ≠ [] := by
        intro hn
        unfold formB at hF
        rw [hn] at hF
        simp at hF
      rw [n_alone p hf hn]
      simp only [cond_false, Bool.not_true, optC_some]
      cases aloneB p
      · rfl
      · cases usesB p <;> rfl
  · rw [hq] at hf
    have hf : fitsB p = false := hf
    rw [hf]; rfl
end Go.Proofs.YtmjbedjnojcmfaaDoor.Ex

namespace Go.Proofs.YtmjbedjnojcmfaaDoor.Ex
open Go.Proofs Go.Proofs.YtmjbedjnojcmfaaDoor
set_option maxRecDepth 100000
set_option maxHeartbeats 2000000
set_option linter.unusedVariables false
set_option linter.unusedSimpArgs false
def ash_law7_known : List Sh := []
noncomputable def sp_law7_known : List Con := [⟨7, con_check_Check, snd_check_Check⟩, ⟨17, con_check_Mutex, snd_check_Mutex⟩]
noncomputable def g_law7_known  : Option Bool :=
  some (-1 == -1)
theorem raw_law7_known  : evGX (cxU sp_law7_known [] 40 1048576) keeps 8 8 ash_law7_known (.dat .bool) (() : Unit) = g_law7_known  := by kernel_rfl
noncomputable def G_law7_known (x : Unit) : Option Bool := g_law7_known 
noncomputable def con_law7_known : List AV → Prog AV := conP true ash_law7_known (.dat .bool) G_law7_known
theorem snd_law7_known : SoundA Tryd.prog 8 con_law7_known := conP_sound (calU sp_law7_known [] 40 1048576 8 8) true (by rfl) (by rfl) (fun x r e => (evGX_eq _ _ _ _ _ _ _).trans ((raw_law7_known ).trans e)) (.inl rfl)
end Go.Proofs.YtmjbedjnojcmfaaDoor.Ex

namespace Go.Proofs.YtmjbedjnojcmfaaDoor.Ex
open Go.Proofs Go.Proofs.YtmjbedjnojcmfaaDoor
set_option maxRecDepth 100000
set_option maxHeartbeats 2000000
set_option linter.unusedVariables false
set_option linter.unusedSimpArgs false
def ash_law7_CheckKinds : List Sh := [.dat .str, .dat (.int .i64)]
noncomputable def sp_law7_CheckKinds : List Con := [⟨7, con_check_Check, snd_check_Check⟩, ⟨9, con_ref7_Check, snd_ref7_Check⟩, ⟨8, con_law7_known, snd_law7_known⟩]
noncomputable def g_law7_CheckKinds (a0 : ByteArray) (a1 : Int) : Option Bool :=
  bif decide (a1 < 0) then some true
 else
 bif decide (a1 > 2) then some true
 else
 bif a0.toList == (ByteArray.mk #[103]).toList then
 bif a1 == 1 then
 bif a1 == 2 then
 optC
 (G_check_Check
 (([(ByteArray.mk #[103], 0)], [(ByteArray.mk #[97], 1)], [ByteArray.mk #[109]],
 [(ByteArray.mk #[116], [ByteArray.mk #[118]],
 [fT2 (3, a0, (0, 0, 0, ByteArray.empty, []), (3, 0, 0, a0, [fT0 (1, 0, 0, ByteArray.empty, [])]), (0, 0, [], []), [], [])])]),
 ()))
 none fun d3 ↦
 bif decide ((↑a0.size : Int) > 60) then some true
 else
 optC
 (G_ref7_Check
 (([(ByteArray.mk #[103], 0)], [(ByteArray.mk #[97], 1)], [ByteArray.mk #[109]],
 [(ByteArray.mk #[116], [ByteArray.mk #[118]],
 [fT2 (3, a0, (0, 0, 0, ByteArray.empty, []), (3, 0, 0, a0, [fT0 (1, 0, 0, ByteArray.empty, [])]), (0, 0, [], []), [], [])])]),
 ()))
 none fun d4 ↦
 bif d4 == 2 then bif d3 == 2 then some (-1 == -1) else some false
 else
 bif (d3 == 0) == (a0.toList == (ByteArray.mk #[97]).toList) then
 bif a0.toList == (ByteArray.mk #[97]).toList then
 optC
 (G_check_Check
 (([(ByteArray.mk #[103], 0)], [(ByteArray.mk #[97], 1)], [ByteArray.mk #[109]],
 [(ByteArray.mk #[116], [ByteArray.mk #[118]],
 [fT2 (3, a0, (0, 0, 0, ByteArray.empty, []), (3, 0, 0, a0, [fT0 (1, 0, 0, ByteArray.empty, [])]), (0, 0, [], []), [], [])])].set
 (Int.toNat (0 : Int))
 (ByteArray.mk #[116], [ByteArray.mk #[118], ByteArray.mk #[103]],
 [fT2 (3, a0, (0, 0, 0, ByteArray.empty, []), (3, 0, 0, a0, [fT0 (1, 0, 0, ByteArray.empty, [])]), (0, 0, [], []), [], [])])),
 ()))
 none fun d5 ↦ bif d5 == 5 then some (-1 == -1) else some false
 else
 bif d3 == 6 then
 optC
 (G_check_Check
 (([(ByteArray.mk #[103], 0)], [(ByteArray.mk #[97], 1)], [ByteArray.mk #[109]],
 [(ByteArray.mk #[116], [ByteArray.mk #[118]],
 [fT2 (3, a0, (0, 0, 0, ByteArray.empty, []), (3, 0, 0, a0, [fT0 (1, 0, 0, ByteArray.empty, [])]), (0, 0, [], []), [], [])])].set
 (Int.toNat (0 : Int))
 (ByteArray.mk #[116], [ByteArray.mk #[118], ByteArray.mk #[103]],
 [fT2 (3, a0, (0, 0, 0, ByteArray.empty, []), (3, 0, 0, a0, [fT0 (1, 0, 0, ByteArray.empty, [])]), (0, 0, [], []), [], [])])),
 ()))
 none fun d5 ↦ bif d5 == 5 then some (-1 == -1) else some false
 else some false
 else some false
 else
 optC
 (G_check_Check
 (([(ByteArray.mk #[103], 0)], [(ByteArray.mk #[97], 1)], [ByteArray.mk #[109]],
 [(ByteArray.mk #[116], [ByteArray.mk #[118]], [fT2 (3, a0, (0, 0, 0, ByteArray.empty, []), (0, 0, 0, ByteArray.empty, []), (0, 0, [], []), [], [])])]),
 ()))
 none fun d3 ↦
 bif decide ((↑a0.size : Int) > 60) then some true
 else
 optC
 (G_ref7_Check
 (([(ByteArray.mk #[103], 0)], [(ByteArray.mk #[97], 1)], [ByteArray.mk #[109]],
 [(ByteArray.mk #[116], [ByteArray.mk #[118]], [fT2 (3, a0, (0, 0, 0, ByteArray.empty, []), (0, 0, 0, ByteArray.empty, []), (0, 0, [], []), [], [])])]),
 ()))
 none fun d4 ↦
 bif d4 == 2 then bif d3 == 2 then some (-1 == -1) else some false
 else
 bif (d3 == 0) == (a0.toList == (ByteArray.mk #[109]).toList) then
 bif a0.toList == (ByteArray.mk #[109]).toList then
 optC
 (G_check_Check
 (([(ByteArray.mk #[103], 0)], [(ByteArray.mk #[97], 1)], [ByteArray.mk #[109]],
 [(ByteArray.mk #[116], [ByteArray.mk #[118]], [fT2 (3, a0, (0, 0, 0, ByteArray.empty, []), (0, 0, 0, ByteArray.empty, []), (0, 0, [], []), [], [])])].set
 (Int.toNat (0 : Int))
 (ByteArray.mk #[116], [ByteArray.mk #[118], ByteArray.mk #[103]],
 [fT2 (3, a0, (0, 0, 0, ByteArray.empty, []), (0, 0, 0, ByteArray.empty, []), (0, 0, [], []), [], [])])),
 ()))
 none fun d5 ↦ bif d5 == 5 then some (-1 == -1) else some false
 else
 bif d3 == 6 then
 optC
 (G_check_Check
 (([(ByteArray.mk #[103], 0)], [(ByteArray.mk #[97], 1)], [ByteArray.mk #[109]],
 [(ByteArray.mk #[116], [ByteArray.mk #[118]], [fT2 (3, a0, (0, 0, 0, ByteArray.empty, []), (0, 0, 0, ByteArray.empty, []), (0, 0, [], []), [], [])])].set
 (Int.toNat (0 : Int))
 (ByteArray.mk #[116], [ByteArray.mk #[118], ByteArray.mk #[103]],
 [fT2 (3, a0, (0, 0, 0, ByteArray.empty, []), (0, 0, 0, ByteArray.empty, []), (0, 0, [], []), [], [])])),
 ()))
 none fun d5 ↦ bif d5 == 5 then some (-1 == -1) else some false
 else some false
 else some false
 else
 bif a1 == 2 then
 optC
 (G_check_Check
 (([(ByteArray.mk #[103], 0)], [(ByteArray.mk #[97], 1)], [ByteArray.mk #[109]],
 [(ByteArray.mk #[116], [ByteArray.mk #[118]],
 [fT2 (1, ByteArray.mk #[118], (0, 0, 0, ByteArray.empty, []), (3, 0, 0, a0, [fT0 (1, 0, 0, ByteArray.empty, [])]), (0, 0, [], []), [], [])])]),
 ()))
 none fun d3 ↦
 bif decide ((↑a0.size : Int) > 60) then some true
 else
 optC
 (G_ref7_Check
 (([(ByteArray.mk #[103], 0)], [(ByteArray.mk #[97], 1)], [ByteArray.mk #[109]],
 [(ByteArray.mk #[116], [ByteArray.mk #[118]],
 [fT2 (1, ByteArray.mk #[118], (0, 0, 0, ByteArray.empty, []), (3, 0, 0, a0, [fT0 (1, 0, 0, ByteArray.empty, [])]), (0, 0, [], []), [], [])])]),
 ()))
 none fun d4 ↦
 bif d4 == 2 then bif d3 == 2 then some (-1 == -1) else some false
 else
 bif (d3 == 0) == (a0.toList == (ByteArray.mk #[97]).toList) then
 bif a0.toList == (ByteArray.mk #[97]).toList then
 optC
 (G_check_Check
 (([(ByteArray.mk #[103], 0)], [(ByteArray.mk #[97], 1)], [ByteArray.mk #[109]],
 [(ByteArray.mk #[116], [ByteArray.mk #[118]],
 [fT2 (1, ByteArray.mk #[118], (0, 0, 0, ByteArray.empty, []), (3, 0, 0, a0, [fT0 (1, 0, 0, ByteArray.empty, [])]), (0, 0, [], []), [], [])])].set
 (Int.toNat (0 : Int))
 (ByteArray.mk #[116], [ByteArray.mk #[118], ByteArray.mk #[103]],
 [fT2 (1, ByteArray.mk #[118], (0, 0, 0, ByteArray.empty, []), (3, 0, 0, a0, [fT0 (1, 0, 0, ByteArray.empty, [])]), (0, 0, [], []), [], [])])),
 ()))
 none fun d5 ↦ bif d5 == 5 then some (-1 == -1) else some false
 else
 bif d3 == 6 then
 optC
 (G_check_Check
 (([(ByteArray.mk #[103], 0)], [(ByteArray.mk #[97], 1)], [ByteArray.mk #[109]],
 [(ByteArray.mk #[116], [ByteArray.mk #[118]],
 [fT2
 (1, ByteArray.mk #[118], (0, 0, 0, ByteArray.empty, []), (3, 0, 0, a0, [fT0 (1, 0, 0, ByteArray.empty, [])]), (0, 0, [], []), [], [])])].set
 (Int.toNat (0 : Int))
 (ByteArray.mk #[116], [ByteArray.mk #[118], ByteArray.mk #[103]],
 [fT2 (1, ByteArray.mk #[118], (0, 0, 0, ByteArray.empty, []), (3, 0, 0, a0, [fT0 (1, 0, 0, ByteArray.empty, [])]), (0, 0, [], []), [], [])])),
 ()))
 none fun d5 ↦ bif d5 == 5 then some (-1 == -1) else some false
 else some false
 else some false
 else
 optC
 (G_check_Check
 (([(ByteArray.mk #[103], 0)], [(ByteArray.mk #[97], 1)], [ByteArray.mk #[109]],
 [(ByteArray.mk #[116], [ByteArray.mk #[118]], [fT2 (1, ByteArray.mk #[118], (0, 0, 0, ByteArray.empty, []), (2, 0, 0, a0, []), (0, 0, [], []), [], [])])]),
 ()))
 none fun d3 ↦
 bif decide ((↑a0.size : Int) > 60) then some true
 else
 optC
 (G_ref7_Check
 (([(ByteArray.mk #[103], 0)], [(ByteArray.mk #[97], 1)], [ByteArray.mk #[109]],
 [(ByteArray.mk #[116], [ByteArray.mk #[118]], [fT2 (1, ByteArray.mk #[118], (0, 0, 0, ByteArray.empty, []), (2, 0, 0, a0, []), (0, 0, [], []), [], [])])]),
 ()))
 none fun d4 ↦
 bif d4 == 2 then bif d3 == 2 then some (-1 == -1) else some false
 else
 bif (d3 == 0) == true then
 optC
 (G_check_Check
 (([(ByteArray.mk #[103], 0)], [(ByteArray.mk #[97], 1)], [ByteArray.mk #[109]],
 [(ByteArray.mk #[116], [ByteArray.mk #[118]], [fT2 (1, ByteArray.mk #[118], (0, 0, 0, ByteArray.empty, []), (2, 0, 0, a0, []), (0, 0, [], []), [], [])])].set
 (Int.toNat (0 : Int))
 (ByteArray.mk #[116], [ByteArray.mk #[118], ByteArray.mk #[103]],
 [fT2 (1, ByteArray.mk #[118], (0, 0, 0, ByteArray.empty, []), (2, 0, 0, a0, []), (0, 0, [], []), [], [])])),
 ()))
 none fun d5 ↦ bif d5 == 5 then some (-1 == -1) else some false
 else some false
 else
 bif a1 == 1 then
 bif a1 == 2 then
 optC
 (G_check_Check
 (([(ByteArray.mk #[103], 0)], [(ByteArray.mk #[97], 1)], [ByteArray.mk #[109]],
 [(ByteArray.mk #[116], [ByteArray.mk #[118]],
 [fT2 (3, a0, (0, 0, 0, ByteArray.empty, []), (3, 0, 0, a0, [fT0 (1, 0, 0, ByteArray.empty, [])]), (0, 0, [], []), [], [])])]),
 ()))
 none fun d3 ↦
 bif decide ((↑a0.size : Int) > 60) then some true
 else
 optC
 (G_ref7_Check
 (([(ByteArray.mk #[103], 0)], [(ByteArray.mk #[97], 1)], [ByteArray.mk #[109]],
 [(ByteArray.mk #[116], [ByteArray.mk #[118]],
 [fT2 (3, a0, (0, 0, 0, ByteArray.empty, []), (3, 0, 0, a0, [fT0 (1, 0, 0, ByteArray.empty, [])]), (0, 0, [], []), [], [])])]),
 ()))
 none fun d4 ↦
 bif d4 == 2 then bif d3 == 2 then some (-1 == -1) else some false
 else
 bif (d3 == 0) == (a0.toList == (ByteArray.mk #[97]).toList) then
 bif a0.toList == (ByteArray.mk #[97]).toList then
 optC
 (G_check_Check
 (([(ByteArray.mk #[103], 0)], [(ByteArray.mk #[97], 1)], [ByteArray.mk #[109]],
 [(ByteArray.mk #[116], [ByteArray.mk #[118]],
 [fT2 (3, a0, (0, 0, 0, ByteArray.empty, []), (3, 0, 0, a0, [fT0 (1, 0, 0, ByteArray.empty, [])]), (0, 0, [], []), [], [])])].set
 (Int.toNat (0 : Int))
 (ByteArray.mk #[116], [ByteArray.mk #[118], ByteArray.mk #[103]],
 [fT2 (3, a0, (0, 0, 0, ByteArray.empty, []), (3, 0, 0, a0, [fT0 (1, 0, 0, ByteArray.empty, [])]), (0, 0, [], []), [], [])])),
 ()))
 none fun d5 ↦ bif d5 == 5 then some (-1 == -1) else some false
 else
 bif d3 == 6 then
 optC
 (G_check_Check
 (([(ByteArray.mk #[103], 0)], [(ByteArray.mk #[97], 1)], [ByteArray.mk #[109]],
 [(ByteArray.mk #[116], [ByteArray.mk #[118]],
 [fT2 (3, a0, (0, 0, 0, ByteArray.empty, []), (3, 0, 0, a0, [fT0 (1, 0, 0, ByteArray.empty, [])]), (0, 0, [], []), [], [])])].set
 (Int.toNat (0 : Int))
 (ByteArray.mk #[116], [ByteArray.mk #[118], ByteArray.mk #[103]],
 [fT2 (3, a0, (0, 0, 0, ByteArray.empty, []), (3, 0, 0, a0, [fT0 (1, 0, 0, ByteArray.empty, [])]), (0, 0, [], []), [], [])])),
 ()))
 none fun d5 ↦ bif d5 == 5 then some (-1 == -1) else some false
 else some false
 else some false
 else
 optC
 (G_check_Check
 (([(ByteArray.mk #[103], 0)], [(ByteArray.mk #[97], 1)], [ByteArray.mk #[109]],
 [(ByteArray.mk #[116], [ByteArray.mk #[118]], [fT2 (3, a0, (0, 0, 0, ByteArray.empty, []), (0, 0, 0, ByteArray.empty, []), (0, 0, [], []), [], [])])]),
 ()))
 none fun d3 ↦
 bif decide ((↑a0.size : Int) > 60) then some true
 else
 optC
 (G_ref7_Check
 (([(ByteArray.mk #[103], 0)], [(ByteArray.mk #[97], 1)], [ByteArray.mk #[109]],
 [(ByteArray.mk #[116], [ByteArray.mk #[118]], [fT2 (3, a0, (0, 0, 0, ByteArray.empty, []), (0, 0, 0, ByteArray.empty, []), (0, 0, [], []), [], [])])]),
 ()))
 none fun d4 ↦
 bif d4 == 2 then bif d3 == 2 then some (-1 == -1) else some false
 else
 bif (d3 == 0) == (a0.toList == (ByteArray.mk #[109]).toList) then
 bif a0.toList == (ByteArray.mk #[109]).toList then
 optC
 (G_check_Check
 (([(ByteArray.mk #[103], 0)], [(ByteArray.mk #[97], 1)], [ByteArray.mk #[109]],
 [(ByteArray.mk #[116], [ByteArray.mk #[118]], [fT2 (3, a0, (0, 0, 0, ByteArray.empty, []), (0, 0, 0, ByteArray.empty, []), (0, 0, [], []), [], [])])].set
 (Int.toNat (0 : Int))
 (ByteArray.mk #[116], [ByteArray.mk #[118], ByteArray.mk #[103]],
 [fT2 (3, a0, (0, 0, 0, ByteArray.empty, []), (0, 0, 0, ByteArray.empty, []), (0, 0, [], []), [], [])])),
 ()))
 none fun d5 ↦ bif d5 == 5 then some (-1 == -1) else some false
 else
 bif d3 == 6 then
 optC
 (G_check_Check
 (([(ByteArray.mk #[103], 0)], [(ByteArray.mk #[97], 1)], [ByteArray.mk #[109]],
 [(ByteArray.mk #[116], [ByteArray.mk #[118]], [fT2 (3, a0, (0, 0, 0, ByteArray.empty, []), (0, 0, 0, ByteArray.empty, []), (0, 0, [], []), [], [])])].set
 (Int.toNat (0 : Int))
 (ByteArray.mk #[116], [ByteArray.mk #[118], ByteArray.mk #[103]],
 [fT2 (3, a0, (0, 0, 0, ByteArray.empty, []), (0, 0, 0, ByteArray.empty, []), (0, 0, [], []), [], [])])),
 ()))
 none fun d5 ↦ bif d5 == 5 then some (-1 == -1) else some false
 else some false
 else some false
 else
 bif a1 == 2 then
 optC
 (G_check_Check
 (([(ByteArray.mk #[103], 0)], [(ByteArray.mk #[97], 1)], [ByteArray.mk #[109]],
 [(ByteArray.mk #[116], [ByteArray.mk #[118]],
 [fT2 (1, ByteArray.mk #[118], (0, 0, 0, ByteArray.empty, []), (3, 0, 0, a0, [fT0 (1, 0, 0, ByteArray.empty, [])]), (0, 0, [], []), [], [])])]),
 ()))
 none fun d3 ↦
 bif decide ((↑a0.size : Int) > 60) then some true
 else
 optC
 (G_ref7_Check
 (([(ByteArray.mk #[103], 0)], [(ByteArray.mk #[97], 1)], [ByteArray.mk #[109]],
 [(ByteArray.mk #[116], [ByteArray.mk #[118]],
 [fT2 (1, ByteArray.mk #[118], (0, 0, 0, ByteArray.empty, []), (3, 0, 0, a0, [fT0 (1, 0, 0, ByteArray.empty, [])]), (0, 0, [], []), [], [])])]),
 ()))
 none fun d4 ↦
 bif d4 == 2 then bif d3 == 2 then some (-1 == -1) else some false
 else
 bif (d3 == 0) == (a0.toList == (ByteArray.mk #[97]).toList) then
 bif a0.toList == (ByteArray.mk #[97]).toList then
 optC
 (G_check_Check
 (([(ByteArray.mk #[103], 0)], [(ByteArray.mk #[97], 1)], [ByteArray.mk #[109]],
 [(ByteArray.mk #[116], [ByteArray.mk #[118]],
 [fT2 (1, ByteArray.mk #[118], (0, 0, 0, ByteArray.empty, []), (3, 0, 0, a0, [fT0 (1, 0, 0, ByteArray.empty, [])]), (0, 0, [], []), [], [])])].set
 (Int.toNat (0 : Int))
 (ByteArray.mk #[116], [ByteArray.mk #[118], ByteArray.mk #[103]],
 [fT2 (1, ByteArray.mk #[118], (0, 0, 0, ByteArray.empty, []), (3, 0, 0, a0, [fT0 (1, 0, 0, ByteArray.empty, [])]), (0, 0, [], []), [], [])])),
 ()))
 none fun d5 ↦ bif d5 == 5 then some (-1 == -1) else some false
 else
 bif d3 == 6 then
 optC
 (G_check_Check
 (([(ByteArray.mk #[103], 0)], [(ByteArray.mk #[97], 1)], [ByteArray.mk #[109]],
 [(ByteArray.mk #[116], [ByteArray.mk #[118]],
 [fT2
 (1, ByteArray.mk #[118], (0, 0, 0, ByteArray.empty, []), (3, 0, 0, a0, [fT0 (1, 0, 0, ByteArray.empty, [])]), (0, 0, [], []), [], [])])].set
 (Int.toNat (0 : Int))
 (ByteArray.mk #[116], [ByteArray.mk #[118], ByteArray.mk #[103]],
 [fT2 (1, ByteArray.mk #[118], (0, 0, 0, ByteArray.empty, []), (3, 0, 0, a0, [fT0 (1, 0, 0, ByteArray.empty, [])]), (0, 0, [], []), [], [])])),
 ()))
 none fun d5 ↦ bif d5 == 5 then some (-1 == -1) else some false
 else some false
 else some false
 else
 optC
 (G_check_Check
 (([(ByteArray.mk #[103], 0)], [(ByteArray.mk #[97], 1)], [ByteArray.mk #[109]],
 [(ByteArray.mk #[116], [ByteArray.mk #[118]], [fT2 (1, ByteArray.mk #[118], (0, 0, 0, ByteArray.empty, []), (2, 0, 0, a0, []), (0, 0, [], []), [], [])])]),
 ()))
 none fun d3 ↦
 bif decide ((↑a0.size : Int) > 60) then some true
 else
 optC
 (G_ref7_Check
 (([(ByteArray.mk #[103], 0)], [(ByteArray.mk #[97], 1)], [ByteArray.mk #[109]],
 [(ByteArray.mk #[116], [ByteArray.mk #[118]], [fT2 (1, ByteArray.mk #[118], (0, 0, 0, ByteArray.empty, []), (2, 0, 0, a0, []), (0, 0, [], []), [], [])])]),
 ()))
 none fun d4 ↦
 bif d4 == 2 then bif d3 == 2 then some (-1 == -1) else some false
 else
 bif (d3 == 0) == (a0.toList == (ByteArray.mk #[118]).toList) then
 bif a0.toList == (ByteArray.mk #[118]).toList then
 optC
 (G_check_Check
 (([(ByteArray.mk #[103], 0)], [(ByteArray.mk #[97], 1)], [ByteArray.mk #[109]],
 [(ByteArray.mk #[116], [ByteArray.mk #[118]], [fT2 (1, ByteArray.mk #[118], (0, 0, 0, ByteArray.empty, []), (2, 0, 0, a0, []), (0, 0, [], []), [], [])])].set
 (Int.toNat (0 : Int))
 (ByteArray.mk #[116], [ByteArray.mk #[118], ByteArray.mk #[103]],
 [fT2 (1, ByteArray.mk #[118], (0, 0, 0, ByteArray.empty, []), (2, 0, 0, a0, []), (0, 0, [], []), [], [])])),
 ()))
 none fun d5 ↦ bif d5 == 5 then some (-1 == -1) else some false
 else
 bif d3 == 6 then
 optC
 (G_check_Check
 (([(ByteArray.mk #[103], 0)], [(ByteArray.mk #[97], 1)], [ByteArray.mk #[109]],
 [(ByteArray.mk #[116], [ByteArray.mk #[118]], [fT2 (1, ByteArray.mk #[118], (0, 0, 0, ByteArray.empty, []), (2, 0, 0, a0, []), (0, 0, [], []), [], [])])].set
 (Int.toNat (0 : Int))
 (ByteArray.mk #[116], [ByteArray.mk #[118], ByteArray.mk #[103]],
 [fT2 (1, ByteArray.mk #[118], (0, 0, 0, ByteArray.empty, []), (2, 0, 0, a0, []), (0, 0, [], []), [], [])])),
 ()))
 none fun d5 ↦ bif d5 == 5 then some (-1 == -1) else some false
 else some false
 else some false
theorem raw_law7_CheckKinds (a0 : ByteArray) (a1 : Int) : evGX (cxU sp_law7_CheckKinds [] 40 1048576) keeps 8 4 ash_law7_CheckKinds (.dat .bool) ((a0, a1, ()) : (ByteArray × (Int × Unit))) = g_law7_CheckKinds a0 a1 := by kernel_rfl
noncomputable def G_law7_CheckKinds (x : (ByteArray × (Int × Unit))) : Option Bool := g_law7_CheckKinds x.1 x.2.1
noncomputable def con_law7_CheckKinds : List AV → Prog AV := conP true ash_law7_CheckKinds (.dat .bool) G_law7_CheckKinds
theorem snd_law7_CheckKinds : SoundA Tryd.prog 4 con_law7_CheckKinds := conP_sound (calU sp_law7_CheckKinds [] 40 1048576 8 4) true (by rfl) (by rfl) (fun x r e => (evGX_eq _ _ _ _ _ _ _).trans ((raw_law7_CheckKinds x.1 x.2.1).trans e)) (.inl rfl)
end Go.Proofs.YtmjbedjnojcmfaaDoor.Ex

