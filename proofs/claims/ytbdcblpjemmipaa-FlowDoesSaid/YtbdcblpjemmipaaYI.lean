/- A part of the proofs of the laws of flow: YI. -/
import Derived.Test.YtbdcblpjemmipaaYF
import Derived.Test.YtbdcblpjemmipaaYG
import Derived.Test.YtbdcblpjemmipaaYH
import Derived.Test.YtbdcblpjemmipaaYD
namespace Go.Proofs.Ytbdcblpjemmipaa.Ex
open Go.Proofs Go.Proofs.Ytbdcblpjemmipaa
set_option maxRecDepth 100000
set_option maxHeartbeats 2000000
set_option linter.unusedVariables false
set_option linter.unusedSimpArgs false
def ash_flow_Do : List Sh := [.dat tU, .dat (.int .i64), .dat (.int .i64), .dat tE, .dat (.sl tEn)]
noncomputable def sp_flow_Do : Nat → Option (List AV → Prog AV)
  | 101 => some (con_itv_Of)
  | 102 => some (con_itv_All)
  | 35 => some (con_flow_Read)
  | 110 => some (con_num_Not)
  | 136 => some (con_itv_Refine)
  | 132 => some (con_itv_Meet)
  | 92 => some (con_itv_Empty)
  | 137 => some (con_env_None)
  | 131 => some (con_slices_Clone_Itv)
  | 48 => some (con_held_Has)
  | 135 => some (con_held_Without)
  | 133 => some (con_flow_deed_gains)
  | 134 => some (con_held_With)
  | 61 => some (con_itv_Leq)
  | 55 => some (con_itv_Join)
  | 129 => some (con_itv_Do)
  | _ => none
theorem hsp_flow_Do : ∀ g p, sp_flow_Do g = some p → SoundA Try.prog g p := by
  intro g p h
  unfold sp_flow_Do at h
  split at h
  · cases h; exact snd_itv_Of
  · cases h; exact snd_itv_All
  · cases h; exact snd_flow_Read
  · cases h; exact snd_num_Not
  · cases h; exact snd_itv_Refine
  · cases h; exact snd_itv_Meet
  · cases h; exact snd_itv_Empty
  · cases h; exact snd_env_None
  · cases h; exact snd_slices_Clone_Itv
  · cases h; exact snd_held_Has
  · cases h; exact snd_held_Without
  · cases h; exact snd_flow_deed_gains
  · cases h; exact snd_held_With
  · cases h; exact snd_itv_Leq
  · cases h; exact snd_itv_Join
  · cases h; exact snd_itv_Do
  · cases h
noncomputable def cx_flow_Do : Ctx := { tab := tab, spec := sp_flow_Do, inl := inl, lps := fun _ _ => none, fuel := 40 }
theorem in_flow_Do : InlOk Try.prog cx_flow_Do := ⟨inl_ok, fun _ _ _ _ _ _ _ _ h => nomatch h⟩
theorem cal_flow_Do (g : Nat) : SoundA Try.prog g (evF cx_flow_Do keeps 8 g) := evF_sound (tabOk_of tab_ok) (cmpsOk_of tab_ok cmps_ok) mixed in_flow_Do hsp_flow_Do keeps 8 g
noncomputable def g_flow_Do (a0 : U) (a1 : Int) (a2 : Int) (a3 : E) (a4 : (List En)) : Option O :=
  bif decide (0 ≤ a1) then
 optC a0.2.2.2[a1.toNat]? none fun d6 ↦
 bif decide (0 ≤ a2) then
 optC d6.2[a2.toNat]? none fun d7 ↦
 bif a3.1 then
 bif d7.1 == 1 then
 optC (G_itv_Of ([d7.2.2.2.2.2.1], ())) none fun d8 ↦
 bif decide (((List.length (α := I) []) + List.length a3.2.1 + 1) * 16 ≤ lim) then
 bif decide (0 ≤ d7.2.1) then
 optC ([] ++ a3.2.1)[Int.toNat d7.2.1]? none fun d9 ↦
 optC ([] ++ a3.2.1)[Int.toNat d7.2.1]? none fun d10 ↦
 some
 ((a3.1, ([] ++ a3.2.1).set (Int.toNat d7.2.1) d8, a3.2.2.1, a3.2.2.2.1, a3.2.2.2.2.1, a3.2.2.2.2.2), (false, [], [], [], 0, 0),
 [], [], [])
 else none
 else none
 else
 bif d7.1 == 2 then
 bif decide (0 ≤ d7.2.2.1) then
 optC a3.2.1[Int.toNat d7.2.2.1]? none fun d8 ↦
 bif decide (((List.length (α := I) []) + List.length a3.2.1 + 1) * 16 ≤ lim) then
 bif decide (0 ≤ d7.2.1) then
 optC ([] ++ a3.2.1)[Int.toNat d7.2.1]? none fun d9 ↦
 optC ([] ++ a3.2.1)[Int.toNat d7.2.1]? none fun d10 ↦
 some
 ((a3.1, ([] ++ a3.2.1).set (Int.toNat d7.2.1) d8, a3.2.2.1, a3.2.2.2.1, a3.2.2.2.2.1, a3.2.2.2.2.2),
 (false, [], [], [], 0, 0), [], [], [])
 else none
 else none
 else none
 else
 bif d7.1 == 3 then
 bif decide (((List.length (α := I) []) + List.length a3.2.1 + 1) * 16 ≤ lim) then
 bif decide (0 ≤ d7.2.1) then
 optC ([] ++ a3.2.1)[Int.toNat d7.2.1]? none fun d8 ↦
 optC ([] ++ a3.2.1)[Int.toNat d7.2.1]? none fun d9 ↦
 some
 ((a3.1, ([] ++ a3.2.1).set (Int.toNat d7.2.1) (-2147483648, 2147483647), a3.2.2.1, a3.2.2.2.1, a3.2.2.2.2.1, a3.2.2.2.2.2),
 (false, [], [], [], 0, 0), [], [], [])
 else none
 else none
 else
 bif d7.1 == 4 then
 bif decide (0 ≤ d7.2.2.1) then
 optC a3.2.1[Int.toNat d7.2.2.1]? none fun d8 ↦
 bif decide (0 ≤ d7.2.2.2.1) then
 optC a3.2.1[Int.toNat d7.2.2.2.1]? none fun d9 ↦
 optC (G_itv_Do (d7.2.2.2.2.2.2.1, d8, d9, ())) none fun d10 ↦
 bif d10.2.1 then
 bif d10.2.2.1 then
 bif !decide (d10.1.1 > d10.1.2) then
 bif decide (((List.length (α := I) []) + List.length a3.2.1 + 1) * 16 ≤ lim) then
 bif decide (0 ≤ d7.2.1) then
 optC ([] ++ a3.2.1)[Int.toNat d7.2.1]? none fun d11 ↦
 optC ([] ++ a3.2.1)[Int.toNat d7.2.1]? none fun d12 ↦
 some
 ((a3.1, ([] ++ a3.2.1).set (Int.toNat d7.2.1) d10.1, a3.2.2.1, a3.2.2.2.1, a3.2.2.2.2.1, a3.2.2.2.2.2),
 (false, [], [], [], 0, 0), [7, 8], [], [])
 else none
 else none
 else some ((false, [], [], [], 0, 0), (false, [], [], [], 0, 0), [7, 8], [], [])
 else
 bif !decide (d10.1.1 > d10.1.2) then
 bif decide (((List.length (α := I) []) + List.length a3.2.1 + 1) * 16 ≤ lim) then
 bif decide (0 ≤ d7.2.1) then
 optC ([] ++ a3.2.1)[Int.toNat d7.2.1]? none fun d11 ↦
 optC ([] ++ a3.2.1)[Int.toNat d7.2.1]? none fun d12 ↦
 some
 ((a3.1, ([] ++ a3.2.1).set (Int.toNat d7.2.1) d10.1, a3.2.2.1, a3.2.2.2.1, a3.2.2.2.2.1, a3.2.2.2.2.2),
 (false, [], [], [], 0, 0), [7], [], [])
 else none
 else none
 else some ((false, [], [], [], 0, 0), (false, [], [], [], 0, 0), [7], [], [])
 else
 bif d10.2.2.1 then
 bif !decide (d10.1.1 > d10.1.2) then
 bif decide (((List.length (α := I) []) + List.length a3.2.1 + 1) * 16 ≤ lim) then
 bif decide (0 ≤ d7.2.1) then
 optC ([] ++ a3.2.1)[Int.toNat d7.2.1]? none fun d11 ↦
 optC ([] ++ a3.2.1)[Int.toNat d7.2.1]? none fun d12 ↦
 some
 ((a3.1, ([] ++ a3.2.1).set (Int.toNat d7.2.1) d10.1, a3.2.2.1, a3.2.2.2.1, a3.2.2.2.2.1, a3.2.2.2.2.2),
 (false, [], [], [], 0, 0), [8], [], [])
 else none
 else none
 else some ((false, [], [], [], 0, 0), (false, [], [], [], 0, 0), [8], [], [])
 else
 bif !decide (d10.1.1 > d10.1.2) then
 bif decide (((List.length (α := I) []) + List.length a3.2.1 + 1) * 16 ≤ lim) then
 bif decide (0 ≤ d7.2.1) then
 optC ([] ++ a3.2.1)[Int.toNat d7.2.1]? none fun d11 ↦
 optC ([] ++ a3.2.1)[Int.toNat d7.2.1]? none fun d12 ↦
 some
 ((a3.1, ([] ++ a3.2.1).set (Int.toNat d7.2.1) d10.1, a3.2.2.1, a3.2.2.2.1, a3.2.2.2.2.1, a3.2.2.2.2.2),
 (false, [], [], [], 0, 0), [], [], [])
 else none
 else none
 else some ((false, [], [], [], 0, 0), (false, [], [], [], 0, 0), [], [], [])
 else none
 else none
 else
 bif d7.1 == 5 then
 optC (G_flow_Read (a0, a1, a3, a4, false, d7.2.2.2.2.1, ())) none fun d8 ↦
 bif decide (((List.length (α := I) []) + List.length a3.2.1 + 1) * 16 ≤ lim) then
 bif decide (0 ≤ d7.2.1) then
 optC ([] ++ a3.2.1)[Int.toNat d7.2.1]? none fun d9 ↦
 optC ([] ++ a3.2.1)[Int.toNat d7.2.1]? none fun d10 ↦
 some
 ((a3.1, ([] ++ a3.2.1).set (Int.toNat d7.2.1) d8, a3.2.2.1, a3.2.2.2.1, a3.2.2.2.2.1, a3.2.2.2.2.2),
 (false, [], [], [], 0, 0), [], [], [(a1, a2, false, d7.2.2.2.2.1, false, a3.2.2.2.2.1)])
 else none
 else none
 else
 bif d7.1 == 6 then
 bif decide (0 ≤ d7.2.2.1) then
 optC a3.2.1[Int.toNat d7.2.2.1]? none fun d8 ↦
 bif decide (((List.length (α := I) []) + List.length a3.2.2.1 + 1) * 16 ≤ lim) then
 bif decide (0 ≤ d7.2.2.2.2.1) then
 optC ([] ++ a3.2.2.1)[Int.toNat d7.2.2.2.2.1]? none fun d9 ↦
 optC ([] ++ a3.2.2.1)[Int.toNat d7.2.2.2.2.1]? none fun d10 ↦
 some
 ((a3.1, a3.2.1, ([] ++ a3.2.2.1).set (Int.toNat d7.2.2.2.2.1) d8, a3.2.2.2.1, a3.2.2.2.2.1, a3.2.2.2.2.2),
 (false, [], [], [], 0, 0), [], [(a1, false, d7.2.2.2.2.1, a3.2.2.2.2.1, d8.1, d8.2)],
 [(a1, a2, false, d7.2.2.2.2.1, true, a3.2.2.2.2.1)])
 else none
 else none
 else none
 else
 bif d7.1 == 7 then
 bif decide (0 ≤ d7.2.2.2.2.1) then
 optC a0.2.1[Int.toNat d7.2.2.2.2.1]? none fun d8 ↦
 bif decide (0 ≤ d7.2.2.1) then
 optC a3.2.1[Int.toNat d7.2.2.1]? none fun d9 ↦
 optC (G_itv_Leq (d9, (0, Go.IntKind.i64.wrap (d8 - 1)), ())) none fun d10 ↦
 bif !d10 then
 bif d7.1 == 8 then
 bif decide (0 ≤ d7.2.2.2.1) then
 optC a3.2.1[Int.toNat d7.2.2.2.1]? none fun d11 ↦
 optC (G_itv_Meet (d9, (0, Go.IntKind.i64.wrap (d8 - 1)), ())) none fun d12 ↦
 bif decide (d12.1 > d12.2) then
 some
 ((false, [], [], [], 0, 0), (false, [], [], [], 0, 0), [9],
 [(a1, true, d7.2.2.2.2.1, a3.2.2.2.2.1, d11.1, d11.2)],
 [(a1, a2, true, d7.2.2.2.2.1, d7.1 == 8, a3.2.2.2.2.1)])
 else
 bif decide (((List.length (α := I) []) + List.length a3.2.1 + 1) * 16 ≤ lim) then
 bif decide (0 ≤ d7.2.2.1) then
 optC ([] ++ a3.2.1)[Int.toNat d7.2.2.1]? none fun d13 ↦
 optC ([] ++ a3.2.1)[Int.toNat d7.2.2.1]? none fun d14 ↦
 bif !d7.1 == 8 then
 optC
 (G_flow_Read
 (a0, a1, (a3.1, ([] ++ a3.2.1).set (Int.toNat d7.2.2.1) d12, a3.2.2), a4, true, d7.2.2.2.2.1, ()))
 none fun d15 ↦
 bif decide (((List.length (α := I) []) + (([] ++ a3.2.1).set (Int.toNat d7.2.2.1) d12).length + 1) * 16 ≤ lim) then
 bif decide (0 ≤ d7.2.1) then
 optC ([] ++ ([] ++ a3.2.1).set (Int.toNat d7.2.2.1) d12)[Int.toNat d7.2.1]? none fun d16 ↦
 optC ([] ++ ([] ++ a3.2.1).set (Int.toNat d7.2.2.1) d12)[Int.toNat d7.2.1]? none fun d17 ↦
 some
 ((a3.1, ([] ++ ([] ++ a3.2.1).set (Int.toNat d7.2.2.1) d12).set (Int.toNat d7.2.1) d15, a3.2.2.1,
 a3.2.2.2.1, a3.2.2.2.2.1, a3.2.2.2.2.2),
 (false, [], [], [], 0, 0), [9], [(a1, true, d7.2.2.2.2.1, a3.2.2.2.2.1, d11.1, d11.2)],
 [(a1, a2, true, d7.2.2.2.2.1, d7.1 == 8, a3.2.2.2.2.1)])
 else none
 else none
 else
 bif decide (((List.length (α := I) []) + List.length a3.2.2.2.1 + 1) * 16 ≤ lim) then
 bif decide (0 ≤ d7.2.2.2.2.1) then
 optC ([] ++ a3.2.2.2.1)[Int.toNat d7.2.2.2.2.1]? none fun d15 ↦
 optC ([] ++ a3.2.2.2.1)[Int.toNat d7.2.2.2.2.1]? none fun d16 ↦
 bif decide (0 ≤ d7.2.2.2.1) then
 optC (([] ++ a3.2.1).set (Int.toNat d7.2.2.1) d12)[Int.toNat d7.2.2.2.1]? none fun d17 ↦
 optC (([] ++ a3.2.1).set (Int.toNat d7.2.2.1) d12)[Int.toNat d7.2.2.2.1]? none fun d18 ↦
 optC (G_itv_Join ([d16, d18], ())) none fun d19 ↦
 bif decide (0 ≤ d7.2.2.2.2.1) then
 optC ([] ++ a3.2.2.2.1)[Int.toNat d7.2.2.2.2.1]? none fun d20 ↦
 optC ([] ++ a3.2.2.2.1)[Int.toNat d7.2.2.2.2.1]? none fun d21 ↦
 some
 ((a3.1, ([] ++ a3.2.1).set (Int.toNat d7.2.2.1) d12, a3.2.2.1,
 ([] ++ a3.2.2.2.1).set (Int.toNat d7.2.2.2.2.1) d19, a3.2.2.2.2.1,
 a3.2.2.2.2.2),
 (false, [], [], [], 0, 0), [9],
 [(a1, true, d7.2.2.2.2.1, a3.2.2.2.2.1, d11.1, d11.2)],
 [(a1, a2, true, d7.2.2.2.2.1, d7.1 == 8, a3.2.2.2.2.1)])
 else none
 else none
 else none
 else none
 else none
 else none
 else none
 else
 optC (G_itv_Meet (d9, (0, Go.IntKind.i64.wrap (d8 - 1)), ())) none fun d11 ↦
 bif decide (d11.1 > d11.2) then
 some
 ((false, [], [], [], 0, 0), (false, [], [], [], 0, 0), [9], [],
 [(a1, a2, true, d7.2.2.2.2.1, d7.1 == 8, a3.2.2.2.2.1)])
 else
 bif decide (((List.length (α := I) []) + List.length a3.2.1 + 1) * 16 ≤ lim) then
 bif decide (0 ≤ d7.2.2.1) then
 optC ([] ++ a3.2.1)[Int.toNat d7.2.2.1]? none fun d12 ↦
 optC ([] ++ a3.2.1)[Int.toNat d7.2.2.1]? none fun d13 ↦
 bif !d7.1 == 8 then
 optC
 (G_flow_Read
 (a0, a1, (a3.1, ([] ++ a3.2.1).set (Int.toNat d7.2.2.1) d11, a3.2.2), a4, true, d7.2.2.2.2.1, ()))
 none fun d14 ↦
 bif decide (((List.length (α := I) []) + (([] ++ a3.2.1).set (Int.toNat d7.2.2.1) d11).length + 1) * 16 ≤ lim) then
 bif decide (0 ≤ d7.2.1) then
 optC ([] ++ ([] ++ a3.2.1).set (Int.toNat d7.2.2.1) d11)[Int.toNat d7.2.1]? none fun d15 ↦
 optC ([] ++ ([] ++ a3.2.1).set (Int.toNat d7.2.2.1) d11)[Int.toNat d7.2.1]? none fun d16 ↦
 some
 ((a3.1, ([] ++ ([] ++ a3.2.1).set (Int.toNat d7.2.2.1) d11).set (Int.toNat d7.2.1) d14, a3.2.2.1,
 a3.2.2.2.1, a3.2.2.2.2.1, a3.2.2.2.2.2),
 (false, [], [], [], 0, 0), [9], [], [(a1, a2, true, d7.2.2.2.2.1, d7.1 == 8, a3.2.2.2.2.1)])
 else none
 else none
 else
 bif decide (((List.length (α := I) []) + List.length a3.2.2.2.1 + 1) * 16 ≤ lim) then
 bif decide (0 ≤ d7.2.2.2.2.1) then
 optC ([] ++ a3.2.2.2.1)[Int.toNat d7.2.2.2.2.1]? none fun d14 ↦
 optC ([] ++ a3.2.2.2.1)[Int.toNat d7.2.2.2.2.1]? none fun d15 ↦
 bif decide (0 ≤ d7.2.2.2.1) then
 optC (([] ++ a3.2.1).set (Int.toNat d7.2.2.1) d11)[Int.toNat d7.2.2.2.1]? none fun d16 ↦
 optC (([] ++ a3.2.1).set (Int.toNat d7.2.2.1) d11)[Int.toNat d7.2.2.2.1]? none fun d17 ↦
 optC (G_itv_Join ([d15, d17], ())) none fun d18 ↦
 bif decide (0 ≤ d7.2.2.2.2.1) then
 optC ([] ++ a3.2.2.2.1)[Int.toNat d7.2.2.2.2.1]? none fun d19 ↦
 optC ([] ++ a3.2.2.2.1)[Int.toNat d7.2.2.2.2.1]? none fun d20 ↦
 some
 ((a3.1, ([] ++ a3.2.1).set (Int.toNat d7.2.2.1) d11, a3.2.2.1,
 ([] ++ a3.2.2.2.1).set (Int.toNat d7.2.2.2.2.1) d18, a3.2.2.2.2.1, a3.2.2.2.2.2),
 (false, [], [], [], 0, 0), [9], [],
 [(a1, a2, true, d7.2.2.2.2.1, d7.1 == 8, a3.2.2.2.2.1)])
 else none
 else none
 else none
 else none
 else none
 else none
 else
 bif d7.1 == 8 then
 bif decide (0 ≤ d7.2.2.2.1) then
 optC a3.2.1[Int.toNat d7.2.2.2.1]? none fun d11 ↦
 optC (G_itv_Meet (d9, (0, Go.IntKind.i64.wrap (d8 - 1)), ())) none fun d12 ↦
 bif decide (d12.1 > d12.2) then
 some
 ((false, [], [], [], 0, 0), (false, [], [], [], 0, 0), [],
 [(a1, true, d7.2.2.2.2.1, a3.2.2.2.2.1, d11.1, d11.2)],
 [(a1, a2, true, d7.2.2.2.2.1, d7.1 == 8, a3.2.2.2.2.1)])
 else
 bif decide (((List.length (α := I) []) + List.length a3.2.1 + 1) * 16 ≤ lim) then
 bif decide (0 ≤ d7.2.2.1) then
 optC ([] ++ a3.2.1)[Int.toNat d7.2.2.1]? none fun d13 ↦
 optC ([] ++ a3.2.1)[Int.toNat d7.2.2.1]? none fun d14 ↦
 bif !d7.1 == 8 then
 optC
 (G_flow_Read
 (a0, a1, (a3.1, ([] ++ a3.2.1).set (Int.toNat d7.2.2.1) d12, a3.2.2), a4, true, d7.2.2.2.2.1, ()))
 none fun d15 ↦
 bif decide (((List.length (α := I) []) + (([] ++ a3.2.1).set (Int.toNat d7.2.2.1) d12).length + 1) * 16 ≤ lim) then
 bif decide (0 ≤ d7.2.1) then
 optC ([] ++ ([] ++ a3.2.1).set (Int.toNat d7.2.2.1) d12)[Int.toNat d7.2.1]? none fun d16 ↦
 optC ([] ++ ([] ++ a3.2.1).set (Int.toNat d7.2.2.1) d12)[Int.toNat d7.2.1]? none fun d17 ↦
 some
 ((a3.1, ([] ++ ([] ++ a3.2.1).set (Int.toNat d7.2.2.1) d12).set (Int.toNat d7.2.1) d15, a3.2.2.1,
 a3.2.2.2.1, a3.2.2.2.2.1, a3.2.2.2.2.2),
 (false, [], [], [], 0, 0), [], [(a1, true, d7.2.2.2.2.1, a3.2.2.2.2.1, d11.1, d11.2)],
 [(a1, a2, true, d7.2.2.2.2.1, d7.1 == 8, a3.2.2.2.2.1)])
 else none
 else none
 else
 bif decide (((List.length (α := I) []) + List.length a3.2.2.2.1 + 1) * 16 ≤ lim) then
 bif decide (0 ≤ d7.2.2.2.2.1) then
 optC ([] ++ a3.2.2.2.1)[Int.toNat d7.2.2.2.2.1]? none fun d15 ↦
 optC ([] ++ a3.2.2.2.1)[Int.toNat d7.2.2.2.2.1]? none fun d16 ↦
 bif decide (0 ≤ d7.2.2.2.1) then
 optC (([] ++ a3.2.1).set (Int.toNat d7.2.2.1) d12)[Int.toNat d7.2.2.2.1]? none fun d17 ↦
 optC (([] ++ a3.2.1).set (Int.toNat d7.2.2.1) d12)[Int.toNat d7.2.2.2.1]? none fun d18 ↦
 optC (G_itv_Join ([d16, d18], ())) none fun d19 ↦
 bif decide (0 ≤ d7.2.2.2.2.1) then
 optC ([] ++ a3.2.2.2.1)[Int.toNat d7.2.2.2.2.1]? none fun d20 ↦
 optC ([] ++ a3.2.2.2.1)[Int.toNat d7.2.2.2.2.1]? none fun d21 ↦
 some
 ((a3.1, ([] ++ a3.2.1).set (Int.toNat d7.2.2.1) d12, a3.2.2.1,
 ([] ++ a3.2.2.2.1).set (Int.toNat d7.2.2.2.2.1) d19, a3.2.2.2.2.1,
 a3.2.2.2.2.2),
 (false, [], [], [], 0, 0), [],
 [(a1, true, d7.2.2.2.2.1, a3.2.2.2.2.1, d11.1, d11.2)],
 [(a1, a2, true, d7.2.2.2.2.1, d7.1 == 8, a3.2.2.2.2.1)])
 else none
 else none
 else none
 else none
 else none
 else none
 else none
 else
 optC (G_itv_Meet (d9, (0, Go.IntKind.i64.wrap (d8 - 1)), ())) none fun d11 ↦
 bif decide (d11.1 > d11.2) then
 some
 ((false, [], [], [], 0, 0), (false, [], [], [], 0, 0), [], [], [(a1, a2, true, d7.2.2.2.2.1, d7.1 == 8, a3.2.2.2.2.1)])
 else
 bif decide (((List.length (α := I) []) + List.length a3.2.1 + 1) * 16 ≤ lim) then
 bif decide (0 ≤ d7.2.2.1) then
 optC ([] ++ a3.2.1)[Int.toNat d7.2.2.1]? none fun d12 ↦
 optC ([] ++ a3.2.1)[Int.toNat d7.2.2.1]? none fun d13 ↦
 bif !d7.1 == 8 then
 optC
 (G_flow_Read
 (a0, a1, (a3.1, ([] ++ a3.2.1).set (Int.toNat d7.2.2.1) d11, a3.2.2), a4, true, d7.2.2.2.2.1, ()))
 none fun d14 ↦
 bif decide (((List.length (α := I) []) + (([] ++ a3.2.1).set (Int.toNat d7.2.2.1) d11).length + 1) * 16 ≤ lim) then
 bif decide (0 ≤ d7.2.1) then
 optC ([] ++ ([] ++ a3.2.1).set (Int.toNat d7.2.2.1) d11)[Int.toNat d7.2.1]? none fun d15 ↦
 optC ([] ++ ([] ++ a3.2.1).set (Int.toNat d7.2.2.1) d11)[Int.toNat d7.2.1]? none fun d16 ↦
 some
 ((a3.1, ([] ++ ([] ++ a3.2.1).set (Int.toNat d7.2.2.1) d11).set (Int.toNat d7.2.1) d14, a3.2.2.1,
 a3.2.2.2.1, a3.2.2.2.2.1, a3.2.2.2.2.2),
 (false, [], [], [], 0, 0), [], [], [(a1, a2, true, d7.2.2.2.2.1, d7.1 == 8, a3.2.2.2.2.1)])
 else none
 else none
 else
 bif decide (((List.length (α := I) []) + List.length a3.2.2.2.1 + 1) * 16 ≤ lim) then
 bif decide (0 ≤ d7.2.2.2.2.1) then
 optC ([] ++ a3.2.2.2.1)[Int.toNat d7.2.2.2.2.1]? none fun d14 ↦
 optC ([] ++ a3.2.2.2.1)[Int.toNat d7.2.2.2.2.1]? none fun d15 ↦
 bif decide (0 ≤ d7.2.2.2.1) then
 optC (([] ++ a3.2.1).set (Int.toNat d7.2.2.1) d11)[Int.toNat d7.2.2.2.1]? none fun d16 ↦
 optC (([] ++ a3.2.1).set (Int.toNat d7.2.2.1) d11)[Int.toNat d7.2.2.2.1]? none fun d17 ↦
 optC (G_itv_Join ([d15, d17], ())) none fun d18 ↦
 bif decide (0 ≤ d7.2.2.2.2.1) then
 optC ([] ++ a3.2.2.2.1)[Int.toNat d7.2.2.2.2.1]? none fun d19 ↦
 optC ([] ++ a3.2.2.2.1)[Int.toNat d7.2.2.2.2.1]? none fun d20 ↦
 some
 ((a3.1, ([] ++ a3.2.1).set (Int.toNat d7.2.2.1) d11, a3.2.2.1,
 ([] ++ a3.2.2.2.1).set (Int.toNat d7.2.2.2.2.1) d18, a3.2.2.2.2.1, a3.2.2.2.2.2),
 (false, [], [], [], 0, 0), [], [],
 [(a1, a2, true, d7.2.2.2.2.1, d7.1 == 8, a3.2.2.2.2.1)])
 else none
 else none
 else none
 else none
 else none
 else none
 else none
 else none
 else
 bif d7.1 == 8 then
 bif decide (0 ≤ d7.2.2.2.2.1) then
 optC a0.2.1[Int.toNat d7.2.2.2.2.1]? none fun d8 ↦
 bif decide (0 ≤ d7.2.2.1) then
 optC a3.2.1[Int.toNat d7.2.2.1]? none fun d9 ↦
 optC (G_itv_Leq (d9, (0, Go.IntKind.i64.wrap (d8 - 1)), ())) none fun d10 ↦
 bif !d10 then
 bif d7.1 == 8 then
 bif decide (0 ≤ d7.2.2.2.1) then
 optC a3.2.1[Int.toNat d7.2.2.2.1]? none fun d11 ↦
 optC (G_itv_Meet (d9, (0, Go.IntKind.i64.wrap (d8 - 1)), ())) none fun d12 ↦
 bif decide (d12.1 > d12.2) then
 some
 ((false, [], [], [], 0, 0), (false, [], [], [], 0, 0), [9],
 [(a1, true, d7.2.2.2.2.1, a3.2.2.2.2.1, d11.1, d11.2)],
 [(a1, a2, true, d7.2.2.2.2.1, d7.1 == 8, a3.2.2.2.2.1)])
 else
 bif decide (((List.length (α := I) []) + List.length a3.2.1 + 1) * 16 ≤ lim) then
 bif decide (0 ≤ d7.2.2.1) then
 optC ([] ++ a3.2.1)[Int.toNat d7.2.2.1]? none fun d13 ↦
 optC ([] ++ a3.2.1)[Int.toNat d7.2.2.1]? none fun d14 ↦
 bif !d7.1 == 8 then
 optC
 (G_flow_Read
 (a0, a1, (a3.1, ([] ++ a3.2.1).set (Int.toNat d7.2.2.1) d12, a3.2.2), a4, true, d7.2.2.2.2.1, ()))
 none fun d15 ↦
 bif decide (((List.length (α := I) []) + (([] ++ a3.2.1).set (Int.toNat d7.2.2.1) d12).length + 1) * 16 ≤ lim) then
 bif decide (0 ≤ d7.2.1) then
 optC ([] ++ ([] ++ a3.2.1).set (Int.toNat d7.2.2.1) d12)[Int.toNat d7.2.1]? none fun d16 ↦
 optC ([] ++ ([] ++ a3.2.1).set (Int.toNat d7.2.2.1) d12)[Int.toNat d7.2.1]? none fun d17 ↦
 some
 ((a3.1, ([] ++ ([] ++ a3.2.1).set (Int.toNat d7.2.2.1) d12).set (Int.toNat d7.2.1) d15, a3.2.2.1,
 a3.2.2.2.1, a3.2.2.2.2.1, a3.2.2.2.2.2),
 (false, [], [], [], 0, 0), [9], [(a1, true, d7.2.2.2.2.1, a3.2.2.2.2.1, d11.1, d11.2)],
 [(a1, a2, true, d7.2.2.2.2.1, d7.1 == 8, a3.2.2.2.2.1)])
 else none
 else none
 else
 bif decide (((List.length (α := I) []) + List.length a3.2.2.2.1 + 1) * 16 ≤ lim) then
 bif decide (0 ≤ d7.2.2.2.2.1) then
 optC ([] ++ a3.2.2.2.1)[Int.toNat d7.2.2.2.2.1]? none fun d15 ↦
 optC ([] ++ a3.2.2.2.1)[Int.toNat d7.2.2.2.2.1]? none fun d16 ↦
 bif decide (0 ≤ d7.2.2.2.1) then
 optC (([] ++ a3.2.1).set (Int.toNat d7.2.2.1) d12)[Int.toNat d7.2.2.2.1]? none fun d17 ↦
 optC (([] ++ a3.2.1).set (Int.toNat d7.2.2.1) d12)[Int.toNat d7.2.2.2.1]? none fun d18 ↦
 optC (G_itv_Join ([d16, d18], ())) none fun d19 ↦
 bif decide (0 ≤ d7.2.2.2.2.1) then
 optC ([] ++ a3.2.2.2.1)[Int.toNat d7.2.2.2.2.1]? none fun d20 ↦
 optC ([] ++ a3.2.2.2.1)[Int.toNat d7.2.2.2.2.1]? none fun d21 ↦
 some
 ((a3.1, ([] ++ a3.2.1).set (Int.toNat d7.2.2.1) d12, a3.2.2.1,
 ([] ++ a3.2.2.2.1).set (Int.toNat d7.2.2.2.2.1) d19, a3.2.2.2.2.1,
 a3.2.2.2.2.2),
 (false, [], [], [], 0, 0), [9],
 [(a1, true, d7.2.2.2.2.1, a3.2.2.2.2.1, d11.1, d11.2)],
 [(a1, a2, true, d7.2.2.2.2.1, d7.1 == 8, a3.2.2.2.2.1)])
 else none
 else none
 else none
 else none
 else none
 else none
 else none
 else
 optC (G_itv_Meet (d9, (0, Go.IntKind.i64.wrap (d8 - 1)), ())) none fun d11 ↦
 bif decide (d11.1 > d11.2) then
 some
 ((false, [], [], [], 0, 0), (false, [], [], [], 0, 0), [9], [],
 [(a1, a2, true, d7.2.2.2.2.1, d7.1 == 8, a3.2.2.2.2.1)])
 else
 bif decide (((List.length (α := I) []) + List.length a3.2.1 + 1) * 16 ≤ lim) then
 bif decide (0 ≤ d7.2.2.1) then
 optC ([] ++ a3.2.1)[Int.toNat d7.2.2.1]? none fun d12 ↦
 optC ([] ++ a3.2.1)[Int.toNat d7.2.2.1]? none fun d13 ↦
 bif !d7.1 == 8 then
 optC
 (G_flow_Read
 (a0, a1, (a3.1, ([] ++ a3.2.1).set (Int.toNat d7.2.2.1) d11, a3.2.2), a4, true, d7.2.2.2.2.1, ()))
 none fun d14 ↦
 bif decide (((List.length (α := I) []) + (([] ++ a3.2.1).set (Int.toNat d7.2.2.1) d11).length + 1) * 16 ≤ lim) then
 bif decide (0 ≤ d7.2.1) then
 optC ([] ++ ([] ++ a3.2.1).set (Int.toNat d7.2.2.1) d11)[Int.toNat d7.2.1]? none fun d15 ↦
 optC ([] ++ ([] ++ a3.2.1).set (Int.toNat d7.2.2.1) d11)[Int.toNat d7.2.1]? none fun d16 ↦
 some
 ((a3.1, ([] ++ ([] ++ a3.2.1).set (Int.toNat d7.2.2.1) d11).set (Int.toNat d7.2.1) d14, a3.2.2.1,
 a3.2.2.2.1, a3.2.2.2.2.1, a3.2.2.2.2.2),
 (false, [], [], [], 0, 0), [9], [], [(a1, a2, true, d7.2.2.2.2.1, d7.1 == 8, a3.2.2.2.2.1)])
 else none
 else none
 else
 bif decide (((List.length (α := I) []) + List.length a3.2.2.2.1 + 1) * 16 ≤ lim) then
 bif decide (0 ≤ d7.2.2.2.2.1) then
 optC ([] ++ a3.2.2.2.1)[Int.toNat d7.2.2.2.2.1]? none fun d14 ↦
 optC ([] ++ a3.2.2.2.1)[Int.toNat d7.2.2.2.2.1]? none fun d15 ↦
 bif decide (0 ≤ d7.2.2.2.1) then
 optC (([] ++ a3.2.1).set (Int.toNat d7.2.2.1) d11)[Int.toNat d7.2.2.2.1]? none fun d16 ↦
 optC (([] ++ a3.2.1).set (Int.toNat d7.2.2.1) d11)[Int.toNat d7.2.2.2.1]? none fun d17 ↦
 optC (G_itv_Join ([d15, d17], ())) none fun d18 ↦
 bif decide (0 ≤ d7.2.2.2.2.1) then
 optC ([] ++ a3.2.2.2.1)[Int.toNat d7.2.2.2.2.1]? none fun d19 ↦
 optC ([] ++ a3.2.2.2.1)[Int.toNat d7.2.2.2.2.1]? none fun d20 ↦
 some
 ((a3.1, ([] ++ a3.2.1).set (Int.toNat d7.2.2.1) d11, a3.2.2.1,
 ([] ++ a3.2.2.2.1).set (Int.toNat d7.2.2.2.2.1) d18, a3.2.2.2.2.1,
 a3.2.2.2.2.2),
 (false, [], [], [], 0, 0), [9], [],
 [(a1, a2, true, d7.2.2.2.2.1, d7.1 == 8, a3.2.2.2.2.1)])
 else none
 else none
 else none
 else none
 else none
 else none
 else
 bif d7.1 == 8 then
 bif decide (0 ≤ d7.2.2.2.1) then
 optC a3.2.1[Int.toNat d7.2.2.2.1]? none fun d11 ↦
 optC (G_itv_Meet (d9, (0, Go.IntKind.i64.wrap (d8 - 1)), ())) none fun d12 ↦
 bif decide (d12.1 > d12.2) then
 some
 ((false, [], [], [], 0, 0), (false, [], [], [], 0, 0), [],
 [(a1, true, d7.2.2.2.2.1, a3.2.2.2.2.1, d11.1, d11.2)],
 [(a1, a2, true, d7.2.2.2.2.1, d7.1 == 8, a3.2.2.2.2.1)])
 else
 bif decide (((List.length (α := I) []) + List.length a3.2.1 + 1) * 16 ≤ lim) then
 bif decide (0 ≤ d7.2.2.1) then
 optC ([] ++ a3.2.1)[Int.toNat d7.2.2.1]? none fun d13 ↦
 optC ([] ++ a3.2.1)[Int.toNat d7.2.2.1]? none fun d14 ↦
 bif !d7.1 == 8 then
 optC
 (G_flow_Read
 (a0, a1, (a3.1, ([] ++ a3.2.1).set (Int.toNat d7.2.2.1) d12, a3.2.2), a4, true, d7.2.2.2.2.1, ()))
 none fun d15 ↦
 bif decide (((List.length (α := I) []) + (([] ++ a3.2.1).set (Int.toNat d7.2.2.1) d12).length + 1) * 16 ≤ lim) then
 bif decide (0 ≤ d7.2.1) then
 optC ([] ++ ([] ++ a3.2.1).set (Int.toNat d7.2.2.1) d12)[Int.toNat d7.2.1]? none fun d16 ↦
 optC ([] ++ ([] ++ a3.2.1).set (Int.toNat d7.2.2.1) d12)[Int.toNat d7.2.1]? none fun d17 ↦
 some
 ((a3.1, ([] ++ ([] ++ a3.2.1).set (Int.toNat d7.2.2.1) d12).set (Int.toNat d7.2.1) d15, a3.2.2.1,
 a3.2.2.2.1, a3.2.2.2.2.1, a3.2.2.2.2.2),
 (false, [], [], [], 0, 0), [], [(a1, true, d7.2.2.2.2.1, a3.2.2.2.2.1, d11.1, d11.2)],
 [(a1, a2, true, d7.2.2.2.2.1, d7.1 == 8, a3.2.2.2.2.1)])
 else none
 else none
 else
 bif decide (((List.length (α := I) []) + List.length a3.2.2.2.1 + 1) * 16 ≤ lim) then
 bif decide (0 ≤ d7.2.2.2.2.1) then
 optC ([] ++ a3.2.2.2.1)[Int.toNat d7.2.2.2.2.1]? none fun d15 ↦
 optC ([] ++ a3.2.2.2.1)[Int.toNat d7.2.2.2.2.1]? none fun d16 ↦
 bif decide (0 ≤ d7.2.2.2.1) then
 optC (([] ++ a3.2.1).set (Int.toNat d7.2.2.1) d12)[Int.toNat d7.2.2.2.1]? none fun d17 ↦
 optC (([] ++ a3.2.1).set (Int.toNat d7.2.2.1) d12)[Int.toNat d7.2.2.2.1]? none fun d18 ↦
 optC (G_itv_Join ([d16, d18], ())) none fun d19 ↦
 bif decide (0 ≤ d7.2.2.2.2.1) then
 optC ([] ++ a3.2.2.2.1)[Int.toNat d7.2.2.2.2.1]? none fun d20 ↦
 optC ([] ++ a3.2.2.2.1)[Int.toNat d7.2.2.2.2.1]? none fun d21 ↦
 some
 ((a3.1, ([] ++ a3.2.1).set (Int.toNat d7.2.2.1) d12, a3.2.2.1,
 ([] ++ a3.2.2.2.1).set (Int.toNat d7.2.2.2.2.1) d19, a3.2.2.2.2.1,
 a3.2.2.2.2.2),
 (false, [], [], [], 0, 0), [],
 [(a1, true, d7.2.2.2.2.1, a3.2.2.2.2.1, d11.1, d11.2)],
 [(a1, a2, true, d7.2.2.2.2.1, d7.1 == 8, a3.2.2.2.2.1)])
 else none
 else none
 else none
 else none
 else none
 else none
 else none
 else
 optC (G_itv_Meet (d9, (0, Go.IntKind.i64.wrap (d8 - 1)), ())) none fun d11 ↦
 bif decide (d11.1 > d11.2) then
 some
 ((false, [], [], [], 0, 0), (false, [], [], [], 0, 0), [], [],
 [(a1, a2, true, d7.2.2.2.2.1, d7.1 == 8, a3.2.2.2.2.1)])
 else
 bif decide (((List.length (α := I) []) + List.length a3.2.1 + 1) * 16 ≤ lim) then
 bif decide (0 ≤ d7.2.2.1) then
 optC ([] ++ a3.2.1)[Int.toNat d7.2.2.1]? none fun d12 ↦
 optC ([] ++ a3.2.1)[Int.toNat d7.2.2.1]? none fun d13 ↦
 bif !d7.1 == 8 then
 optC
 (G_flow_Read
 (a0, a1, (a3.1, ([] ++ a3.2.1).set (Int.toNat d7.2.2.1) d11, a3.2.2), a4, true, d7.2.2.2.2.1, ()))
 none fun d14 ↦
 bif decide (((List.length (α := I) []) + (([] ++ a3.2.1).set (Int.toNat d7.2.2.1) d11).length + 1) * 16 ≤ lim) then
 bif decide (0 ≤ d7.2.1) then
 optC ([] ++ ([] ++ a3.2.1).set (Int.toNat d7.2.2.1) d11)[Int.toNat d7.2.1]? none fun d15 ↦
 optC ([] ++ ([] ++ a3.2.1).set (Int.toNat d7.2.2.1) d11)[Int.toNat d7.2.1]? none fun d16 ↦
 some
 ((a3.1, ([] ++ ([] ++ a3.2.1).set (Int.toNat d7.2.2.1) d11).set (Int.toNat d7.2.1) d14, a3.2.2.1,
 a3.2.2.2.1, a3.2.2.2.2.1, a3.2.2.2.2.2),
 (false, [], [], [], 0, 0), [], [], [(a1, a2, true, d7.2.2.2.2.1, d7.1 == 8, a3.2.2.2.2.1)])
 else none
 else none
 else
 bif decide (((List.length (α := I) []) + List.length a3.2.2.2.1 + 1) * 16 ≤ lim) then
 bif decide (0 ≤ d7.2.2.2.2.1) then
 optC ([] ++ a3.2.2.2.1)[Int.toNat d7.2.2.2.2.1]? none fun d14 ↦
 optC ([] ++ a3.2.2.2.1)[Int.toNat d7.2.2.2.2.1]? none fun d15 ↦
 bif decide (0 ≤ d7.2.2.2.1) then
 optC (([] ++ a3.2.1).set (Int.toNat d7.2.2.1) d11)[Int.toNat d7.2.2.2.1]? none fun d16 ↦
 optC (([] ++ a3.2.1).set (Int.toNat d7.2.2.1) d11)[Int.toNat d7.2.2.2.1]? none fun d17 ↦
 optC (G_itv_Join ([d15, d17], ())) none fun d18 ↦
 bif decide (0 ≤ d7.2.2.2.2.1) then
 optC ([] ++ a3.2.2.2.1)[Int.toNat d7.2.2.2.2.1]? none fun d19 ↦
 optC ([] ++ a3.2.2.2.1)[Int.toNat d7.2.2.2.2.1]? none fun d20 ↦
 some
 ((a3.1, ([] ++ a3.2.1).set (Int.toNat d7.2.2.1) d11, a3.2.2.1,
 ([] ++ a3.2.2.2.1).set (Int.toNat d7.2.2.2.2.1) d18, a3.2.2.2.2.1,
 a3.2.2.2.2.2),
 (false, [], [], [], 0, 0), [], [],
 [(a1, a2, true, d7.2.2.2.2.1, d7.1 == 8, a3.2.2.2.2.1)])
 else none
 else none
 else none
 else none
 else none
 else none
 else none
 else none
 else
 bif d7.1 == 9 then
 optC (G_held_Has (a3.2.2.2.2.2, d7.2.2.2.2.1, ())) none fun d8 ↦
 bif d8 then
 optC (G_held_Has (a3.2.2.2.2.1, d7.2.2.2.2.1, ())) none fun d9 ↦
 bif d9 then some ((false, [], [], [], 0, 0), (false, [], [], [], 0, 0), [11], [], [])
 else
 optC
 (G_flow_deed_gains
 ((d7.1, d7.2.1, d7.2.2.1, d7.2.2.2.1, d7.2.2.2.2.1, d7.2.2.2.2.2.1, d7.2.2.2.2.2.2.1,
 d7.2.2.2.2.2.2.2.1, d7.2.2.2.2.2.2.2.2, a0.1, a0.2.1, a0.2.2.1, a0.2.2.2, a1, a2, a3.1, a3.2.1,
 a3.2.2.1, a3.2.2.2.1, a3.2.2.2.2.1, a3.2.2.2.2.2, a4, false, [], [], [], 0, 0, false, [], [], [], 0, 0, [11],
 [], [], ()),
 a3.2.2.1, false, ()))
 none fun d10 ↦
 optC
 (G_flow_deed_gains
 ((d7.1, d7.2.1, d7.2.2.1, d7.2.2.2.1, d7.2.2.2.2.1, d7.2.2.2.2.2.1, d7.2.2.2.2.2.2.1,
 d7.2.2.2.2.2.2.2.1, d7.2.2.2.2.2.2.2.2, a0.1, a0.2.1, a0.2.2.1, a0.2.2.2, a1, a2, a3.1, a3.2.1,
 a3.2.2.1, a3.2.2.2.1, a3.2.2.2.2.1, a3.2.2.2.2.2, a4, false, [], [], [], 0, 0, false, [], [], [], 0, 0, [11],
 [], [], ()),
 a3.2.2.2.1, true, ()))
 none fun d11 ↦
 optC (G_held_With (a3.2.2.2.2.1, [d7.2.2.2.2.1], ())) none fun d12 ↦
 optC (G_held_With (a3.2.2.2.2.2, [d7.2.2.2.2.1], ())) none fun d13 ↦
 some ((a3.1, a3.2.1, d10, d11, d12, d13), (false, [], [], [], 0, 0), [11], [], [])
 else
 optC (G_held_Has (a3.2.2.2.2.1, d7.2.2.2.2.1, ())) none fun d9 ↦
 bif d9 then some ((false, [], [], [], 0, 0), (false, [], [], [], 0, 0), [], [], [])
 else
 optC
 (G_flow_deed_gains
 ((d7.1, d7.2.1, d7.2.2.1, d7.2.2.2.1, d7.2.2.2.2.1, d7.2.2.2.2.2.1, d7.2.2.2.2.2.2.1,
 d7.2.2.2.2.2.2.2.1, d7.2.2.2.2.2.2.2.2, a0.1, a0.2.1, a0.2.2.1, a0.2.2.2, a1, a2, a3.1, a3.2.1,
 a3.2.2.1, a3.2.2.2.1, a3.2.2.2.2.1, a3.2.2.2.2.2, a4, false, [], [], [], 0, 0, false, [], [], [], 0, 0, [], [],
 [], ()),
 a3.2.2.1, false, ()))
 none fun d10 ↦
 optC
 (G_flow_deed_gains
 ((d7.1, d7.2.1, d7.2.2.1, d7.2.2.2.1, d7.2.2.2.2.1, d7.2.2.2.2.2.1, d7.2.2.2.2.2.2.1,
 d7.2.2.2.2.2.2.2.1, d7.2.2.2.2.2.2.2.2, a0.1, a0.2.1, a0.2.2.1, a0.2.2.2, a1, a2, a3.1, a3.2.1,
 a3.2.2.1, a3.2.2.2.1, a3.2.2.2.2.1, a3.2.2.2.2.2, a4, false, [], [], [], 0, 0, false, [], [], [], 0, 0, [],
 [], [], ()),
 a3.2.2.2.1, true, ()))
 none fun d11 ↦
 optC (G_held_With (a3.2.2.2.2.1, [d7.2.2.2.2.1], ())) none fun d12 ↦
 optC (G_held_With (a3.2.2.2.2.2, [d7.2.2.2.2.1], ())) none fun d13 ↦
 some ((a3.1, a3.2.1, d10, d11, d12, d13), (false, [], [], [], 0, 0), [], [], [])
 else
 bif d7.1 == 10 then
 optC (G_held_Has (a3.2.2.2.2.1, d7.2.2.2.2.1, ())) none fun d8 ↦
 bif !d8 then
 optC (G_held_Has (a3.2.2.2.2.2, d7.2.2.2.2.1, ())) none fun d9 ↦
 bif !d9 then some ((false, [], [], [], 0, 0), (false, [], [], [], 0, 0), [12], [], [])
 else
 optC (G_held_Without (a3.2.2.2.2.1, [d7.2.2.2.2.1], ())) none fun d10 ↦
 optC (G_held_Without (a3.2.2.2.2.2, [d7.2.2.2.2.1], ())) none fun d11 ↦
 some ((a3.1, a3.2.1, a3.2.2.1, a3.2.2.2.1, d10, d11), (false, [], [], [], 0, 0), [12], [], [])
 else
 optC (G_held_Has (a3.2.2.2.2.2, d7.2.2.2.2.1, ())) none fun d9 ↦
 bif !d9 then some ((false, [], [], [], 0, 0), (false, [], [], [], 0, 0), [], [], [])
 else
 optC (G_held_Without (a3.2.2.2.2.1, [d7.2.2.2.2.1], ())) none fun d10 ↦
 optC (G_held_Without (a3.2.2.2.2.2, [d7.2.2.2.2.1], ())) none fun d11 ↦
 some ((a3.1, a3.2.1, a3.2.2.1, a3.2.2.2.1, d10, d11), (false, [], [], [], 0, 0), [], [], [])
 else
 bif d7.1 == 11 then
 bif decide (0 ≤ d7.2.2.1) then
 optC a3.2.1[Int.toNat d7.2.2.1]? none fun d8 ↦
 bif decide (0 ≤ d7.2.2.2.1) then
 optC a3.2.1[Int.toNat d7.2.2.2.1]? none fun d9 ↦
 optC (G_itv_Refine (d7.2.2.2.2.2.2.1, d8, d9, ())) none fun d10 ↦
 bif d7.2.2.1 == d7.2.2.2.1 then
 optC (G_itv_Meet (d10.1, d10.2.1, ())) none fun d11 ↦
 bif decide (d11.1 > d11.2) then
 optC (G_num_Not (d7.2.2.2.2.2.2.1, ())) none fun d12 ↦
 bif decide (0 ≤ d7.2.2.1) then
 optC a3.2.1[Int.toNat d7.2.2.1]? none fun d13 ↦
 bif decide (0 ≤ d7.2.2.2.1) then
 optC a3.2.1[Int.toNat d7.2.2.2.1]? none fun d14 ↦
 optC (G_itv_Refine (d12, d13, d14, ())) none fun d15 ↦
 bif d7.2.2.1 == d7.2.2.2.1 then
 optC (G_itv_Meet (d15.1, d15.2.1, ())) none fun d16 ↦
 bif decide (d16.1 > d16.2) then some ((false, [], [], [], 0, 0), (false, [], [], [], 0, 0), [], [], [])
 else
 bif decide (d16.1 > d16.2) then some ((false, [], [], [], 0, 0), (false, [], [], [], 0, 0), [], [], [])
 else
 bif decide (((List.length (α := I) []) + List.length a3.2.1 + 1) * 16 ≤ lim) then
 bif decide (0 ≤ d7.2.2.1) then
 optC ([] ++ a3.2.1)[Int.toNat d7.2.2.1]? none fun d17 ↦
 optC ([] ++ a3.2.1)[Int.toNat d7.2.2.1]? none fun d18 ↦
 bif decide (0 ≤ d7.2.2.2.1) then
 optC (([] ++ a3.2.1).set (Int.toNat d7.2.2.1) d16)[Int.toNat d7.2.2.2.1]? none fun d19 ↦
 optC (([] ++ a3.2.1).set (Int.toNat d7.2.2.1) d16)[Int.toNat d7.2.2.2.1]? none fun d20 ↦
 some
 ((false, [], [], [], 0, 0),
 (a3.1, (([] ++ a3.2.1).set (Int.toNat d7.2.2.1) d16).set (Int.toNat d7.2.2.2.1) d16,
 a3.2.2.1, a3.2.2.2.1, a3.2.2.2.2.1, a3.2.2.2.2.2),
 [], [], [])
 else none
 else none
 else none
 else
 bif decide (d15.1.1 > d15.1.2) then
 some ((false, [], [], [], 0, 0), (false, [], [], [], 0, 0), [], [], [])
 else
 bif decide (d15.2.1.1 > d15.2.1.2) then
 some ((false, [], [], [], 0, 0), (false, [], [], [], 0, 0), [], [], [])
 else
 bif decide (((List.length (α := I) []) + List.length a3.2.1 + 1) * 16 ≤ lim) then
 bif decide (0 ≤ d7.2.2.1) then
 optC ([] ++ a3.2.1)[Int.toNat d7.2.2.1]? none fun d16 ↦
 optC ([] ++ a3.2.1)[Int.toNat d7.2.2.1]? none fun d17 ↦
 bif decide (0 ≤ d7.2.2.2.1) then
 optC (([] ++ a3.2.1).set (Int.toNat d7.2.2.1) d15.1)[Int.toNat d7.2.2.2.1]? none fun d18 ↦
 optC (([] ++ a3.2.1).set (Int.toNat d7.2.2.1) d15.1)[Int.toNat d7.2.2.2.1]? none
 fun d19 ↦
 some
 ((false, [], [], [], 0, 0),
 (a3.1, (([] ++ a3.2.1).set (Int.toNat d7.2.2.1) d15.1).set (Int.toNat d7.2.2.2.1) d15.2.1,
 a3.2.2.1, a3.2.2.2.1, a3.2.2.2.2.1, a3.2.2.2.2.2),
 [], [], [])
 else none
 else none
 else none
 else none
 else none
 else
 bif decide (d11.1 > d11.2) then
 optC (G_num_Not (d7.2.2.2.2.2.2.1, ())) none fun d12 ↦
 bif decide (0 ≤ d7.2.2.1) then
 optC a3.2.1[Int.toNat d7.2.2.1]? none fun d13 ↦
 bif decide (0 ≤ d7.2.2.2.1) then
 optC a3.2.1[Int.toNat d7.2.2.2.1]? none fun d14 ↦
 optC (G_itv_Refine (d12, d13, d14, ())) none fun d15 ↦
 bif d7.2.2.1 == d7.2.2.2.1 then
 optC (G_itv_Meet (d15.1, d15.2.1, ())) none fun d16 ↦
 bif decide (d16.1 > d16.2) then some ((false, [], [], [], 0, 0), (false, [], [], [], 0, 0), [], [], [])
 else
 bif decide (d16.1 > d16.2) then
 some ((false, [], [], [], 0, 0), (false, [], [], [], 0, 0), [], [], [])
 else
 bif decide (((List.length (α := I) []) + List.length a3.2.1 + 1) * 16 ≤ lim) then
 bif decide (0 ≤ d7.2.2.1) then
 optC ([] ++ a3.2.1)[Int.toNat d7.2.2.1]? none fun d17 ↦
 optC ([] ++ a3.2.1)[Int.toNat d7.2.2.1]? none fun d18 ↦
 bif decide (0 ≤ d7.2.2.2.1) then
 optC (([] ++ a3.2.1).set (Int.toNat d7.2.2.1) d16)[Int.toNat d7.2.2.2.1]? none fun d19 ↦
 optC (([] ++ a3.2.1).set (Int.toNat d7.2.2.1) d16)[Int.toNat d7.2.2.2.1]? none
 fun d20 ↦
 some
 ((false, [], [], [], 0, 0),
 (a3.1, (([] ++ a3.2.1).set (Int.toNat d7.2.2.1) d16).set (Int.toNat d7.2.2.2.1) d16,
 a3.2.2.1, a3.2.2.2.1, a3.2.2.2.2.1, a3.2.2.2.2.2),
 [], [], [])
 else none
 else none
 else none
 else
 bif decide (d15.1.1 > d15.1.2) then
 some ((false, [], [], [], 0, 0), (false, [], [], [], 0, 0), [], [], [])
 else
 bif decide (d15.2.1.1 > d15.2.1.2) then
 some ((false, [], [], [], 0, 0), (false, [], [], [], 0, 0), [], [], [])
 else
 bif decide (((List.length (α := I) []) + List.length a3.2.1 + 1) * 16 ≤ lim) then
 bif decide (0 ≤ d7.2.2.1) then
 optC ([] ++ a3.2.1)[Int.toNat d7.2.2.1]? none fun d16 ↦
 optC ([] ++ a3.2.1)[Int.toNat d7.2.2.1]? none fun d17 ↦
 bif decide (0 ≤ d7.2.2.2.1) then
 optC (([] ++ a3.2.1).set (Int.toNat d7.2.2.1) d15.1)[Int.toNat d7.2.2.2.1]? none
 fun d18 ↦
 optC (([] ++ a3.2.1).set (Int.toNat d7.2.2.1) d15.1)[Int.toNat d7.2.2.2.1]? none
 fun d19 ↦
 some
 ((false, [], [], [], 0, 0),
 (a3.1,
 (([] ++ a3.2.1).set (Int.toNat d7.2.2.1) d15.1).set (Int.toNat d7.2.2.2.1) d15.2.1,
 a3.2.2.1, a3.2.2.2.1, a3.2.2.2.2.1, a3.2.2.2.2.2),
 [], [], [])
 else none
 else none
 else none
 else none
 else none
 else
 bif decide (((List.length (α := I) []) + List.length a3.2.1 + 1) * 16 ≤ lim) then
 bif decide (0 ≤ d7.2.2.1) then
 optC ([] ++ a3.2.1)[Int.toNat d7.2.2.1]? none fun d12 ↦
 optC ([] ++ a3.2.1)[Int.toNat d7.2.2.1]? none fun d13 ↦
 bif decide (0 ≤ d7.2.2.2.1) then
 optC (([] ++ a3.2.1).set (Int.toNat d7.2.2.1) d11)[Int.toNat d7.2.2.2.1]? none fun d14 ↦
 optC (([] ++ a3.2.1).set (Int.toNat d7.2.2.1) d11)[Int.toNat d7.2.2.2.1]? none fun d15 ↦
 optC (G_num_Not (d7.2.2.2.2.2.2.1, ())) none fun d16 ↦
 bif decide (0 ≤ d7.2.2.1) then
 optC a3.2.1[Int.toNat d7.2.2.1]? none fun d17 ↦
 bif decide (0 ≤ d7.2.2.2.1) then
 optC a3.2.1[Int.toNat d7.2.2.2.1]? none fun d18 ↦
 optC (G_itv_Refine (d16, d17, d18, ())) none fun d19 ↦
 bif d7.2.2.1 == d7.2.2.2.1 then
 optC (G_itv_Meet (d19.1, d19.2.1, ())) none fun d20 ↦
 bif decide (d20.1 > d20.2) then
 some
 ((a3.1, (([] ++ a3.2.1).set (Int.toNat d7.2.2.1) d11).set (Int.toNat d7.2.2.2.1) d11,
 a3.2.2.1, a3.2.2.2.1, a3.2.2.2.2.1, a3.2.2.2.2.2),
 (false, [], [], [], 0, 0), [], [], [])
 else
 bif decide (d20.1 > d20.2) then
 some
 ((a3.1, (([] ++ a3.2.1).set (Int.toNat d7.2.2.1) d11).set (Int.toNat d7.2.2.2.1) d11,
 a3.2.2.1, a3.2.2.2.1, a3.2.2.2.2.1, a3.2.2.2.2.2),
 (false, [], [], [], 0, 0), [], [], [])
 else
 bif decide (((List.length (α := I) []) + List.length a3.2.1 + 1) * 16 ≤ lim) then
 bif decide (0 ≤ d7.2.2.1) then
 optC ([] ++ a3.2.1)[Int.toNat d7.2.2.1]? none fun d21 ↦
 optC ([] ++ a3.2.1)[Int.toNat d7.2.2.1]? none fun d22 ↦
 bif decide (0 ≤ d7.2.2.2.1) then
 optC (([] ++ a3.2.1).set (Int.toNat d7.2.2.1) d20)[Int.toNat d7.2.2.2.1]?
 none fun d23 ↦
 optC (([] ++ a3.2.1).set (Int.toNat d7.2.2.1) d20)[Int.toNat d7.2.2.2.1]?
 none fun d24 ↦
 some
 ((a3.1,
 (([] ++ a3.2.1).set (Int.toNat d7.2.2.1) d11).set (Int.toNat d7.2.2.2.1) d11,
 a3.2.2.1, a3.2.2.2.1, a3.2.2.2.2.1, a3.2.2.2.2.2),
 (a3.1,
 (([] ++ a3.2.1).set (Int.toNat d7.2.2.1) d20).set (Int.toNat d7.2.2.2.1) d20,
 a3.2.2.1, a3.2.2.2.1, a3.2.2.2.2.1, a3.2.2.2.2.2),
 [], [], [])
 else none
 else none
 else none
 else
 bif decide (d19.1.1 > d19.1.2) then
 some
 ((a3.1, (([] ++ a3.2.1).set (Int.toNat d7.2.2.1) d11).set (Int.toNat d7.2.2.2.1) d11,
 a3.2.2.1, a3.2.2.2.1, a3.2.2.2.2.1, a3.2.2.2.2.2),
 (false, [], [], [], 0, 0), [], [], [])
 else
 bif decide (d19.2.1.1 > d19.2.1.2) then
 some
 ((a3.1, (([] ++ a3.2.1).set (Int.toNat d7.2.2.1) d11).set (Int.toNat d7.2.2.2.1) d11,
 a3.2.2.1, a3.2.2.2.1, a3.2.2.2.2.1, a3.2.2.2.2.2),
 (false, [], [], [], 0, 0), [], [], [])
 else
 bif decide (((List.length (α := I) []) + List.length a3.2.1 + 1) * 16 ≤ lim) then
 bif decide (0 ≤ d7.2.2.1) then
 optC ([] ++ a3.2.1)[Int.toNat d7.2.2.1]? none fun d20 ↦
 optC ([] ++ a3.2.1)[Int.toNat d7.2.2.1]? none fun d21 ↦
 bif decide (0 ≤ d7.2.2.2.1) then
 optC (([] ++ a3.2.1).set (Int.toNat d7.2.2.1) d19.1)[Int.toNat d7.2.2.2.1]?
 none fun d22 ↦
 optC (([] ++ a3.2.1).set (Int.toNat d7.2.2.1) d19.1)[Int.toNat d7.2.2.2.1]?
 none fun d23 ↦
 some
 ((a3.1,
 (([] ++ a3.2.1).set (Int.toNat d7.2.2.1) d11).set (Int.toNat d7.2.2.2.1) d11,
 a3.2.2.1, a3.2.2.2.1, a3.2.2.2.2.1, a3.2.2.2.2.2),
 (a3.1,
 (([] ++ a3.2.1).set (Int.toNat d7.2.2.1) d19.1).set (Int.toNat d7.2.2.2.1)
 d19.2.1,
 a3.2.2.1, a3.2.2.2.1, a3.2.2.2.2.1, a3.2.2.2.2.2),
 [], [], [])
 else none
 else none
 else none
 else none
 else none
 else none
 else none
 else none
 else
 bif decide (d10.1.1 > d10.1.2) then
 optC (G_num_Not (d7.2.2.2.2.2.2.1, ())) none fun d11 ↦
 bif decide (0 ≤ d7.2.2.1) then
 optC a3.2.1[Int.toNat d7.2.2.1]? none fun d12 ↦
 bif decide (0 ≤ d7.2.2.2.1) then
 optC a3.2.1[Int.toNat d7.2.2.2.1]? none fun d13 ↦
 optC (G_itv_Refine (d11, d12, d13, ())) none fun d14 ↦
 bif d7.2.2.1 == d7.2.2.2.1 then
 optC (G_itv_Meet (d14.1, d14.2.1, ())) none fun d15 ↦
 bif decide (d15.1 > d15.2) then some ((false, [], [], [], 0, 0), (false, [], [], [], 0, 0), [], [], [])
 else
 bif decide (d15.1 > d15.2) then some ((false, [], [], [], 0, 0), (false, [], [], [], 0, 0), [], [], [])
 else
 bif decide (((List.length (α := I) []) + List.length a3.2.1 + 1) * 16 ≤ lim) then
 bif decide (0 ≤ d7.2.2.1) then
 optC ([] ++ a3.2.1)[Int.toNat d7.2.2.1]? none fun d16 ↦
 optC ([] ++ a3.2.1)[Int.toNat d7.2.2.1]? none fun d17 ↦
 bif decide (0 ≤ d7.2.2.2.1) then
 optC (([] ++ a3.2.1).set (Int.toNat d7.2.2.1) d15)[Int.toNat d7.2.2.2.1]? none fun d18 ↦
 optC (([] ++ a3.2.1).set (Int.toNat d7.2.2.1) d15)[Int.toNat d7.2.2.2.1]? none fun d19 ↦
 some
 ((false, [], [], [], 0, 0),
 (a3.1, (([] ++ a3.2.1).set (Int.toNat d7.2.2.1) d15).set (Int.toNat d7.2.2.2.1) d15,
 a3.2.2.1, a3.2.2.2.1, a3.2.2.2.2.1, a3.2.2.2.2.2),
 [], [], [])
 else none
 else none
 else none
 else
 bif decide (d14.1.1 > d14.1.2) then
 some ((false, [], [], [], 0, 0), (false, [], [], [], 0, 0), [], [], [])
 else
 bif decide (d14.2.1.1 > d14.2.1.2) then
 some ((false, [], [], [], 0, 0), (false, [], [], [], 0, 0), [], [], [])
 else
 bif decide (((List.length (α := I) []) + List.length a3.2.1 + 1) * 16 ≤ lim) then
 bif decide (0 ≤ d7.2.2.1) then
 optC ([] ++ a3.2.1)[Int.toNat d7.2.2.1]? none fun d15 ↦
 optC ([] ++ a3.2.1)[Int.toNat d7.2.2.1]? none fun d16 ↦
 bif decide (0 ≤ d7.2.2.2.1) then
 optC (([] ++ a3.2.1).set (Int.toNat d7.2.2.1) d14.1)[Int.toNat d7.2.2.2.1]? none fun d17 ↦
 optC (([] ++ a3.2.1).set (Int.toNat d7.2.2.1) d14.1)[Int.toNat d7.2.2.2.1]? none fun d18 ↦
 some
 ((false, [], [], [], 0, 0),
 (a3.1, (([] ++ a3.2.1).set (Int.toNat d7.2.2.1) d14.1).set (Int.toNat d7.2.2.2.1) d14.2.1,
 a3.2.2.1, a3.2.2.2.1, a3.2.2.2.2.1, a3.2.2.2.2.2),
 [], [], [])
 else none
 else none
 else none
 else none
 else none
 else
 bif decide (d10.2.1.1 > d10.2.1.2) then
 optC (G_num_Not (d7.2.2.2.2.2.2.1, ())) none fun d11 ↦
 bif decide (0 ≤ d7.2.2.1) then
 optC a3.2.1[Int.toNat d7.2.2.1]? none fun d12 ↦
 bif decide (0 ≤ d7.2.2.2.1) then
 optC a3.2.1[Int.toNat d7.2.2.2.1]? none fun d13 ↦
 optC (G_itv_Refine (d11, d12, d13, ())) none fun d14 ↦
 bif d7.2.2.1 == d7.2.2.2.1 then
 optC (G_itv_Meet (d14.1, d14.2.1, ())) none fun d15 ↦
 bif decide (d15.1 > d15.2) then some ((false, [], [], [], 0, 0), (false, [], [], [], 0, 0), [], [], [])
 else
 bif decide (d15.1 > d15.2) then some ((false, [], [], [], 0, 0), (false, [], [], [], 0, 0), [], [], [])
 else
 bif decide (((List.length (α := I) []) + List.length a3.2.1 + 1) * 16 ≤ lim) then
 bif decide (0 ≤ d7.2.2.1) then
 optC ([] ++ a3.2.1)[Int.toNat d7.2.2.1]? none fun d16 ↦
 optC ([] ++ a3.2.1)[Int.toNat d7.2.2.1]? none fun d17 ↦
 bif decide (0 ≤ d7.2.2.2.1) then
 optC (([] ++ a3.2.1).set (Int.toNat d7.2.2.1) d15)[Int.toNat d7.2.2.2.1]? none fun d18 ↦
 optC (([] ++ a3.2.1).set (Int.toNat d7.2.2.1) d15)[Int.toNat d7.2.2.2.1]? none fun d19 ↦
 some
 ((false, [], [], [], 0, 0),
 (a3.1, (([] ++ a3.2.1).set (Int.toNat d7.2.2.1) d15).set (Int.toNat d7.2.2.2.1) d15,
 a3.2.2.1, a3.2.2.2.1, a3.2.2.2.2.1, a3.2.2.2.2.2),
 [], [], [])
 else none
 else none
 else none
 else
 bif decide (d14.1.1 > d14.1.2) then
 some ((false, [], [], [], 0, 0), (false, [], [], [], 0, 0), [], [], [])
 else
 bif decide (d14.2.1.1 > d14.2.1.2) then
 some ((false, [], [], [], 0, 0), (false, [], [], [], 0, 0), [], [], [])
 else
 bif decide (((List.length (α := I) []) + List.length a3.2.1 + 1) * 16 ≤ lim) then
 bif decide (0 ≤ d7.2.2.1) then
 optC ([] ++ a3.2.1)[Int.toNat d7.2.2.1]? none fun d15 ↦
 optC ([] ++ a3.2.1)[Int.toNat d7.2.2.1]? none fun d16 ↦
 bif decide (0 ≤ d7.2.2.2.1) then
 optC (([] ++ a3.2.1).set (Int.toNat d7.2.2.1) d14.1)[Int.toNat d7.2.2.2.1]? none fun d17 ↦
 optC (([] ++ a3.2.1).set (Int.toNat d7.2.2.1) d14.1)[Int.toNat d7.2.2.2.1]? none
 fun d18 ↦
 some
 ((false, [], [], [], 0, 0),
 (a3.1, (([] ++ a3.2.1).set (Int.toNat d7.2.2.1) d14.1).set (Int.toNat d7.2.2.2.1) d14.2.1,
 a3.2.2.1, a3.2.2.2.1, a3.2.2.2.2.1, a3.2.2.2.2.2),
 [], [], [])
 else none
 else none
 else none
 else none
 else none
 else
 bif decide (((List.length (α := I) []) + List.length a3.2.1 + 1) * 16 ≤ lim) then
 bif decide (0 ≤ d7.2.2.1) then
 optC ([] ++ a3.2.1)[Int.toNat d7.2.2.1]? none fun d11 ↦
 optC ([] ++ a3.2.1)[Int.toNat d7.2.2.1]? none fun d12 ↦
 bif decide (0 ≤ d7.2.2.2.1) then
 optC (([] ++ a3.2.1).set (Int.toNat d7.2.2.1) d10.1)[Int.toNat d7.2.2.2.1]? none fun d13 ↦
 optC (([] ++ a3.2.1).set (Int.toNat d7.2.2.1) d10.1)[Int.toNat d7.2.2.2.1]? none fun d14 ↦
 optC (G_num_Not (d7.2.2.2.2.2.2.1, ())) none fun d15 ↦
 bif decide (0 ≤ d7.2.2.1) then
 optC a3.2.1[Int.toNat d7.2.2.1]? none fun d16 ↦
 bif decide (0 ≤ d7.2.2.2.1) then
 optC a3.2.1[Int.toNat d7.2.2.2.1]? none fun d17 ↦
 optC (G_itv_Refine (d15, d16, d17, ())) none fun d18 ↦
 bif d7.2.2.1 == d7.2.2.2.1 then
 optC (G_itv_Meet (d18.1, d18.2.1, ())) none fun d19 ↦
 bif decide (d19.1 > d19.2) then
 some
 ((a3.1, (([] ++ a3.2.1).set (Int.toNat d7.2.2.1) d10.1).set (Int.toNat d7.2.2.2.1) d10.2.1,
 a3.2.2.1, a3.2.2.2.1, a3.2.2.2.2.1, a3.2.2.2.2.2),
 (false, [], [], [], 0, 0), [], [], [])
 else
 bif decide (d19.1 > d19.2) then
 some
 ((a3.1,
 (([] ++ a3.2.1).set (Int.toNat d7.2.2.1) d10.1).set (Int.toNat d7.2.2.2.1) d10.2.1,
 a3.2.2.1, a3.2.2.2.1, a3.2.2.2.2.1, a3.2.2.2.2.2),
 (false, [], [], [], 0, 0), [], [], [])
 else
 bif decide (((List.length (α := I) []) + List.length a3.2.1 + 1) * 16 ≤ lim) then
 bif decide (0 ≤ d7.2.2.1) then
 optC ([] ++ a3.2.1)[Int.toNat d7.2.2.1]? none fun d20 ↦
 optC ([] ++ a3.2.1)[Int.toNat d7.2.2.1]? none fun d21 ↦
 bif decide (0 ≤ d7.2.2.2.1) then
 optC (([] ++ a3.2.1).set (Int.toNat d7.2.2.1) d19)[Int.toNat d7.2.2.2.1]?
 none fun d22 ↦
 optC (([] ++ a3.2.1).set (Int.toNat d7.2.2.1) d19)[Int.toNat d7.2.2.2.1]?
 none fun d23 ↦
 some
 ((a3.1,
 (([] ++ a3.2.1).set (Int.toNat d7.2.2.1) d10.1).set (Int.toNat d7.2.2.2.1)
 d10.2.1,
 a3.2.2.1, a3.2.2.2.1, a3.2.2.2.2.1, a3.2.2.2.2.2),
 (a3.1,
 (([] ++ a3.2.1).set (Int.toNat d7.2.2.1) d19).set (Int.toNat d7.2.2.2.1) d19,
 a3.2.2.1, a3.2.2.2.1, a3.2.2.2.2.1, a3.2.2.2.2.2),
 [], [], [])
 else none
 else none
 else none
 else
 bif decide (d18.1.1 > d18.1.2) then
 some
 ((a3.1, (([] ++ a3.2.1).set (Int.toNat d7.2.2.1) d10.1).set (Int.toNat d7.2.2.2.1) d10.2.1,
 a3.2.2.1, a3.2.2.2.1, a3.2.2.2.2.1, a3.2.2.2.2.2),
 (false, [], [], [], 0, 0), [], [], [])
 else
 bif decide (d18.2.1.1 > d18.2.1.2) then
 some
 ((a3.1, (([] ++ a3.2.1).set (Int.toNat d7.2.2.1) d10.1).set (Int.toNat d7.2.2.2.1) d10.2.1,
 a3.2.2.1, a3.2.2.2.1, a3.2.2.2.2.1, a3.2.2.2.2.2),
 (false, [], [], [], 0, 0), [], [], [])
 else
 bif decide (((List.length (α := I) []) + List.length a3.2.1 + 1) * 16 ≤ lim) then
 bif decide (0 ≤ d7.2.2.1) then
 optC ([] ++ a3.2.1)[Int.toNat d7.2.2.1]? none fun d19 ↦
 optC ([] ++ a3.2.1)[Int.toNat d7.2.2.1]? none fun d20 ↦
 bif decide (0 ≤ d7.2.2.2.1) then
 optC (([] ++ a3.2.1).set (Int.toNat d7.2.2.1) d18.1)[Int.toNat d7.2.2.2.1]?
 none fun d21 ↦
 optC (([] ++ a3.2.1).set (Int.toNat d7.2.2.1) d18.1)[Int.toNat d7.2.2.2.1]?
 none fun d22 ↦
 some
 ((a3.1,
 (([] ++ a3.2.1).set (Int.toNat d7.2.2.1) d10.1).set (Int.toNat d7.2.2.2.1)
 d10.2.1,
 a3.2.2.1, a3.2.2.2.1, a3.2.2.2.2.1, a3.2.2.2.2.2),
 (a3.1,
 (([] ++ a3.2.1).set (Int.toNat d7.2.2.1) d18.1).set (Int.toNat d7.2.2.2.1)
 d18.2.1,
 a3.2.2.1, a3.2.2.2.1, a3.2.2.2.2.1, a3.2.2.2.2.2),
 [], [], [])
 else none
 else none
 else none
 else none
 else none
 else none
 else none
 else none
 else none
 else none
 else
 bif d7.1 == 12 then
 some ((a3.1, a3.2.1, a3.2.2.1, a3.2.2.2.1, a3.2.2.2.2.1, a3.2.2.2.2.2), (false, [], [], [], 0, 0), [], [], [])
 else
 bif d7.1 == 13 then some ((false, [], [], [], 0, 0), (false, [], [], [], 0, 0), [10], [], [])
 else some ((false, [], [], [], 0, 0), (false, [], [], [], 0, 0), [], [], [])
 else some ((false, [], [], [], 0, 0), (false, [], [], [], 0, 0), [], [], [])
 else none
 else none
theorem raw_flow_Do (a0 : U) (a1 : Int) (a2 : Int) (a3 : E) (a4 : (List En)) : evGX cx_flow_Do keeps 8 33 ash_flow_Do (.dat tO) ((a0, a1, a2, a3, a4, ()) : (U × (Int × (Int × (E × ((List En) × Unit)))))) = g_flow_Do a0 a1 a2 a3 a4 := by kernel_rfl
noncomputable def G_flow_Do (x : (U × (Int × (Int × (E × ((List En) × Unit)))))) : Option O := g_flow_Do x.1 x.2.1 x.2.2.1 x.2.2.2.1 x.2.2.2.2.1
noncomputable def con_flow_Do : List AV → Prog AV := conP true ash_flow_Do (.dat tO) G_flow_Do
theorem snd_flow_Do : SoundA Try.prog 33 con_flow_Do := conP_sound (cal_flow_Do 33) true (by rfl) (by rfl) (fun x r e => (evGX_eq _ _ _ _ _ _ _).trans ((raw_flow_Do x.1 x.2.1 x.2.2.1 x.2.2.2.1 x.2.2.2.2.1).trans e)) (.inl rfl)
end Go.Proofs.Ytbdcblpjemmipaa.Ex

namespace Go.Proofs.Ytbdcblpjemmipaa.Ex
open Go.Proofs Go.Proofs.Ytbdcblpjemmipaa
set_option maxRecDepth 100000
set_option maxHeartbeats 2000000
set_option linter.unusedVariables false
set_option linter.unusedSimpArgs false
def ash_ref2_One : List Sh := [.dat (.int .i64)]
noncomputable def sp_ref2_One : Nat → Option (List AV → Prog AV)
  | _ => none
theorem hsp_ref2_One : ∀ g p, sp_ref2_One g = some p → SoundA Try.prog g p := by
  intro g p h
  unfold sp_ref2_One at h
  split at h
  · cases h
noncomputable def cx_ref2_One : Ctx := { tab := tab, spec := sp_ref2_One, inl := inl, lps := fun _ _ => none, fuel := 40 }
theorem in_ref2_One : InlOk Try.prog cx_ref2_One := ⟨inl_ok, fun _ _ _ _ _ _ _ _ h => nomatch h⟩
theorem cal_ref2_One (g : Nat) : SoundA Try.prog g (evF cx_ref2_One keeps 8 g) := evF_sound (tabOk_of tab_ok) (cmpsOk_of tab_ok cmps_ok) mixed in_ref2_One hsp_ref2_One keeps 8 g
noncomputable def g_ref2_One (a0 : Int) : Option I :=
  some (a0, a0)
theorem raw_ref2_One (a0 : Int) : evGX cx_ref2_One keeps 8 73 ash_ref2_One (.dat tI) ((a0, ()) : (Int × Unit)) = g_ref2_One a0 := by kernel_rfl
noncomputable def G_ref2_One (x : (Int × Unit)) : Option I := g_ref2_One x.1
noncomputable def con_ref2_One : List AV → Prog AV := conP true ash_ref2_One (.dat tI) G_ref2_One
theorem snd_ref2_One : SoundA Try.prog 73 con_ref2_One := conP_sound (cal_ref2_One 73) true (by rfl) (by rfl) (fun x r e => (evGX_eq _ _ _ _ _ _ _).trans ((raw_ref2_One x.1).trans e)) (.inl rfl)
end Go.Proofs.Ytbdcblpjemmipaa.Ex

namespace Go.Proofs.Ytbdcblpjemmipaa.Ex
open Go.Proofs Go.Proofs.Ytbdcblpjemmipaa
set_option maxRecDepth 100000
set_option maxHeartbeats 2000000
set_option linter.unusedVariables false
set_option linter.unusedSimpArgs false
def ash_ref2_All : List Sh := []
noncomputable def sp_ref2_All : Nat → Option (List AV → Prog AV)
  | _ => none
theorem hsp_ref2_All : ∀ g p, sp_ref2_All g = some p → SoundA Try.prog g p := by
  intro g p h
  unfold sp_ref2_All at h
  split at h
  · cases h
noncomputable def cx_ref2_All : Ctx := { tab := tab, spec := sp_ref2_All, inl := inl, lps := fun _ _ => none, fuel := 40 }
theorem in_ref2_All : InlOk Try.prog cx_ref2_All := ⟨inl_ok, fun _ _ _ _ _ _ _ _ h => nomatch h⟩
theorem cal_ref2_All (g : Nat) : SoundA Try.prog g (evF cx_ref2_All keeps 8 g) := evF_sound (tabOk_of tab_ok) (cmpsOk_of tab_ok cmps_ok) mixed in_ref2_All hsp_ref2_All keeps 8 g
noncomputable def g_ref2_All  : Option I :=
  some (-2147483648, 2147483647)
theorem raw_ref2_All  : evGX cx_ref2_All keeps 8 74 ash_ref2_All (.dat tI) (() : Unit) = g_ref2_All  := by kernel_rfl
noncomputable def G_ref2_All (x : Unit) : Option I := g_ref2_All 
noncomputable def con_ref2_All : List AV → Prog AV := conP true ash_ref2_All (.dat tI) G_ref2_All
theorem snd_ref2_All : SoundA Try.prog 74 con_ref2_All := conP_sound (cal_ref2_All 74) true (by rfl) (by rfl) (fun x r e => (evGX_eq _ _ _ _ _ _ _).trans ((raw_ref2_All ).trans e)) (.inl rfl)
end Go.Proofs.Ytbdcblpjemmipaa.Ex

namespace Go.Proofs.Ytbdcblpjemmipaa.Ex
open Go.Proofs Go.Proofs.Ytbdcblpjemmipaa
set_option maxRecDepth 100000
set_option maxHeartbeats 2000000
set_option linter.unusedVariables false
set_option linter.unusedSimpArgs false
def ash_ref13_op : List Sh := [.dat tA, .dat tE]
noncomputable def sp_ref13_op : Nat → Option (List AV → Prog AV)
  | 112 => some (con_ref2_Do)
  | 49 => some (con_ref2_Empty)
  | 72 => some (con_ref13_with)
  | _ => none
theorem hsp_ref13_op : ∀ g p, sp_ref13_op g = some p → SoundA Try.prog g p := by
  intro g p h
  unfold sp_ref13_op at h
  split at h
  · cases h; exact snd_ref2_Do
  · cases h; exact snd_ref2_Empty
  · cases h; exact snd_ref13_with
  · cases h
noncomputable def cx_ref13_op : Ctx := { tab := tab, spec := sp_ref13_op, inl := inl, lps := fun _ _ => none, fuel := 40 }
theorem in_ref13_op : InlOk Try.prog cx_ref13_op := ⟨inl_ok, fun _ _ _ _ _ _ _ _ h => nomatch h⟩
theorem cal_ref13_op (g : Nat) : SoundA Try.prog g (evF cx_ref13_op keeps 8 g) := evF_sound (tabOk_of tab_ok) (cmpsOk_of tab_ok cmps_ok) mixed in_ref13_op hsp_ref13_op keeps 8 g
noncomputable def g_ref13_op (a0 : A) (a1 : E) : Option O :=
  bif decide (0 ≤ a0.2.2.1) then
 optC a1.2.1[Int.toNat a0.2.2.1]? none fun d3 ↦
 bif decide (0 ≤ a0.2.2.2.1) then
 optC a1.2.1[Int.toNat a0.2.2.2.1]? none fun d4 ↦
 optC (G_ref2_Do (a0.2.2.2.2.2.2.1, d3, d4, ())) none fun d5 ↦
 bif d5.2.1 then
 bif d5.2.2.1 then
 bif !decide (d5.1.1 > d5.1.2) then
 optC (G_ref13_with (a1, a0.2.1, d5.1, ())) none fun d6 ↦
 some ((d6.1, d6.2.1, d6.2.2.1, d6.2.2.2.1, d6.2.2.2.2.1, d6.2.2.2.2.2), (false, [], [], [], 0, 0), [7, 8], [], [])
 else some ((false, [], [], [], 0, 0), (false, [], [], [], 0, 0), [7, 8], [], [])
 else
 bif !decide (d5.1.1 > d5.1.2) then
 optC (G_ref13_with (a1, a0.2.1, d5.1, ())) none fun d6 ↦
 some ((d6.1, d6.2.1, d6.2.2.1, d6.2.2.2.1, d6.2.2.2.2.1, d6.2.2.2.2.2), (false, [], [], [], 0, 0), [7], [], [])
 else some ((false, [], [], [], 0, 0), (false, [], [], [], 0, 0), [7], [], [])
 else
 bif d5.2.2.1 then
 bif !decide (d5.1.1 > d5.1.2) then
 optC (G_ref13_with (a1, a0.2.1, d5.1, ())) none fun d6 ↦
 some ((d6.1, d6.2.1, d6.2.2.1, d6.2.2.2.1, d6.2.2.2.2.1, d6.2.2.2.2.2), (false, [], [], [], 0, 0), [8], [], [])
 else some ((false, [], [], [], 0, 0), (false, [], [], [], 0, 0), [8], [], [])
 else
 bif !decide (d5.1.1 > d5.1.2) then
 optC (G_ref13_with (a1, a0.2.1, d5.1, ())) none fun d6 ↦
 some ((d6.1, d6.2.1, d6.2.2.1, d6.2.2.2.1, d6.2.2.2.2.1, d6.2.2.2.2.2), (false, [], [], [], 0, 0), [], [], [])
 else some ((false, [], [], [], 0, 0), (false, [], [], [], 0, 0), [], [], [])
 else none
 else none
theorem raw_ref13_op (a0 : A) (a1 : E) : evGX cx_ref13_op keeps 8 75 ash_ref13_op (.dat tO) ((a0, a1, ()) : (A × (E × Unit))) = g_ref13_op a0 a1 := by kernel_rfl
noncomputable def G_ref13_op (x : (A × (E × Unit))) : Option O := g_ref13_op x.1 x.2.1
noncomputable def con_ref13_op : List AV → Prog AV := conP true ash_ref13_op (.dat tO) G_ref13_op
theorem snd_ref13_op : SoundA Try.prog 75 con_ref13_op := conP_sound (cal_ref13_op 75) true (by rfl) (by rfl) (fun x r e => (evGX_eq _ _ _ _ _ _ _).trans ((raw_ref13_op x.1 x.2.1).trans e)) (.inl rfl)
end Go.Proofs.Ytbdcblpjemmipaa.Ex

namespace Go.Proofs.Ytbdcblpjemmipaa.Ex
open Go.Proofs Go.Proofs.Ytbdcblpjemmipaa
set_option maxRecDepth 100000
set_option maxHeartbeats 2000000
set_option linter.unusedVariables false
set_option linter.unusedSimpArgs false
def ash_ref13_unlock : List Sh := [.dat tA, .dat tE]
noncomputable def sp_ref13_unlock : Nat → Option (List AV → Prog AV)
  | 67 => some (con_ref3_Has)
  | 115 => some (con_ref3_Without)
  | _ => none
theorem hsp_ref13_unlock : ∀ g p, sp_ref13_unlock g = some p → SoundA Try.prog g p := by
  intro g p h
  unfold sp_ref13_unlock at h
  split at h
  · cases h; exact snd_ref3_Has
  · cases h; exact snd_ref3_Without
  · cases h
noncomputable def cx_ref13_unlock : Ctx := { tab := tab, spec := sp_ref13_unlock, inl := inl, lps := fun _ _ => none, fuel := 40 }
theorem in_ref13_unlock : InlOk Try.prog cx_ref13_unlock := ⟨inl_ok, fun _ _ _ _ _ _ _ _ h => nomatch h⟩
theorem cal_ref13_unlock (g : Nat) : SoundA Try.prog g (evF cx_ref13_unlock keeps 8 g) := evF_sound (tabOk_of tab_ok) (cmpsOk_of tab_ok cmps_ok) mixed in_ref13_unlock hsp_ref13_unlock keeps 8 g
noncomputable def g_ref13_unlock (a0 : A) (a1 : E) : Option O :=
  optC (G_ref3_Has (a1.2.2.2.2.1, a0.2.2.2.2.1, ())) none fun d3 ↦
 bif !d3 then
 optC (G_ref3_Has (a1.2.2.2.2.2, a0.2.2.2.2.1, ())) none fun d4 ↦
 bif !d4 then some ((false, [], [], [], 0, 0), (false, [], [], [], 0, 0), [12], [], [])
 else
 optC (G_ref3_Without (a1.2.2.2.2.1, [a0.2.2.2.2.1], ())) none fun d5 ↦
 optC (G_ref3_Without (a1.2.2.2.2.2, [a0.2.2.2.2.1], ())) none fun d6 ↦
 some ((a1.1, a1.2.1, a1.2.2.1, a1.2.2.2.1, d5, d6), (false, [], [], [], 0, 0), [12], [], [])
 else
 optC (G_ref3_Has (a1.2.2.2.2.2, a0.2.2.2.2.1, ())) none fun d4 ↦
 bif !d4 then some ((false, [], [], [], 0, 0), (false, [], [], [], 0, 0), [], [], [])
 else
 optC (G_ref3_Without (a1.2.2.2.2.1, [a0.2.2.2.2.1], ())) none fun d5 ↦
 optC (G_ref3_Without (a1.2.2.2.2.2, [a0.2.2.2.2.1], ())) none fun d6 ↦
 some ((a1.1, a1.2.1, a1.2.2.1, a1.2.2.2.1, d5, d6), (false, [], [], [], 0, 0), [], [], [])
theorem raw_ref13_unlock (a0 : A) (a1 : E) : evGX cx_ref13_unlock keeps 8 78 ash_ref13_unlock (.dat tO) ((a0, a1, ()) : (A × (E × Unit))) = g_ref13_unlock a0 a1 := by kernel_rfl
noncomputable def G_ref13_unlock (x : (A × (E × Unit))) : Option O := g_ref13_unlock x.1 x.2.1
noncomputable def con_ref13_unlock : List AV → Prog AV := conP true ash_ref13_unlock (.dat tO) G_ref13_unlock
theorem snd_ref13_unlock : SoundA Try.prog 78 con_ref13_unlock := conP_sound (cal_ref13_unlock 78) true (by rfl) (by rfl) (fun x r e => (evGX_eq _ _ _ _ _ _ _).trans ((raw_ref13_unlock x.1 x.2.1).trans e)) (.inl rfl)
end Go.Proofs.Ytbdcblpjemmipaa.Ex

namespace Go.Proofs.Ytbdcblpjemmipaa.Ex
open Go.Proofs Go.Proofs.Ytbdcblpjemmipaa
set_option maxRecDepth 100000
set_option maxHeartbeats 2000000
set_option linter.unusedVariables false
set_option linter.unusedSimpArgs false
def ash_ref13_side : List Sh := [.dat tA, .dat tE, .dat (.int .i64)]
noncomputable def sp_ref13_side : Nat → Option (List AV → Prog AV)
  | 116 => some (con_ref2_Refine)
  | 113 => some (con_ref2_Meet)
  | 49 => some (con_ref2_Empty)
  | 72 => some (con_ref13_with)
  | _ => none
theorem hsp_ref13_side : ∀ g p, sp_ref13_side g = some p → SoundA Try.prog g p := by
  intro g p h
  unfold sp_ref13_side at h
  split at h
  · cases h; exact snd_ref2_Refine
  · cases h; exact snd_ref2_Meet
  · cases h; exact snd_ref2_Empty
  · cases h; exact snd_ref13_with
  · cases h
noncomputable def cx_ref13_side : Ctx := { tab := tab, spec := sp_ref13_side, inl := inl, lps := fun _ _ => none, fuel := 40 }
theorem in_ref13_side : InlOk Try.prog cx_ref13_side := ⟨inl_ok, fun _ _ _ _ _ _ _ _ h => nomatch h⟩
theorem cal_ref13_side (g : Nat) : SoundA Try.prog g (evF cx_ref13_side keeps 8 g) := evF_sound (tabOk_of tab_ok) (cmpsOk_of tab_ok cmps_ok) mixed in_ref13_side hsp_ref13_side keeps 8 g
noncomputable def g_ref13_side (a0 : A) (a1 : E) (a2 : Int) : Option E :=
  bif decide (0 ≤ a0.2.2.1) then
 optC a1.2.1[Int.toNat a0.2.2.1]? none fun d4 ↦
 bif decide (0 ≤ a0.2.2.2.1) then
 optC a1.2.1[Int.toNat a0.2.2.2.1]? none fun d5 ↦
 optC (G_ref2_Refine (a2, d4, d5, ())) none fun d6 ↦
 bif a0.2.2.1 == a0.2.2.2.1 then
 optC (G_ref2_Meet (d6.1, d6.2.1, ())) none fun d7 ↦
 bif decide (d7.1 > d7.2) then some (false, [], [], [], 0, 0)
 else
 bif decide (d7.1 > d7.2) then some (false, [], [], [], 0, 0)
 else
 optC (G_ref13_with (a1, a0.2.2.1, d7, ())) none fun d8 ↦
 optC (G_ref13_with (d8, a0.2.2.2.1, d7, ())) none fun d9 ↦
 some (d9.1, d9.2.1, d9.2.2.1, d9.2.2.2.1, d9.2.2.2.2.1, d9.2.2.2.2.2)
 else
 bif decide (d6.1.1 > d6.1.2) then some (false, [], [], [], 0, 0)
 else
 bif decide (d6.2.1.1 > d6.2.1.2) then some (false, [], [], [], 0, 0)
 else
 optC (G_ref13_with (a1, a0.2.2.1, d6.1, ())) none fun d7 ↦
 optC (G_ref13_with (d7, a0.2.2.2.1, d6.2.1, ())) none fun d8 ↦
 some (d8.1, d8.2.1, d8.2.2.1, d8.2.2.2.1, d8.2.2.2.2.1, d8.2.2.2.2.2)
 else none
 else none
theorem raw_ref13_side (a0 : A) (a1 : E) (a2 : Int) : evGX cx_ref13_side keeps 8 79 ash_ref13_side (.dat tE) ((a0, a1, a2, ()) : (A × (E × (Int × Unit)))) = g_ref13_side a0 a1 a2 := by kernel_rfl
noncomputable def G_ref13_side (x : (A × (E × (Int × Unit)))) : Option E := g_ref13_side x.1 x.2.1 x.2.2.1
noncomputable def con_ref13_side : List AV → Prog AV := conP true ash_ref13_side (.dat tE) G_ref13_side
theorem snd_ref13_side : SoundA Try.prog 79 con_ref13_side := conP_sound (cal_ref13_side 79) true (by rfl) (by rfl) (fun x r e => (evGX_eq _ _ _ _ _ _ _).trans ((raw_ref13_side x.1 x.2.1 x.2.2.1).trans e)) (.inl rfl)
end Go.Proofs.Ytbdcblpjemmipaa.Ex

namespace Go.Proofs.Ytbdcblpjemmipaa.Ex
open Go.Proofs Go.Proofs.Ytbdcblpjemmipaa
set_option maxRecDepth 100000
set_option maxHeartbeats 2000000
set_option linter.unusedVariables false
set_option linter.unusedSimpArgs false
def ash_ref1_Not : List Sh := [.dat (.int .i64)]
noncomputable def sp_ref1_Not : Nat → Option (List AV → Prog AV)
  | _ => none
theorem hsp_ref1_Not : ∀ g p, sp_ref1_Not g = some p → SoundA Try.prog g p := by
  intro g p h
  unfold sp_ref1_Not at h
  split at h
  · cases h
noncomputable def cx_ref1_Not : Ctx := { tab := tab, spec := sp_ref1_Not, inl := inl, lps := fun _ _ => none, fuel := 40 }
theorem in_ref1_Not : InlOk Try.prog cx_ref1_Not := ⟨inl_ok, fun _ _ _ _ _ _ _ _ h => nomatch h⟩
theorem cal_ref1_Not (g : Nat) : SoundA Try.prog g (evF cx_ref1_Not keeps 8 g) := evF_sound (tabOk_of tab_ok) (cmpsOk_of tab_ok cmps_ok) mixed in_ref1_Not hsp_ref1_Not keeps 8 g
noncomputable def g_ref1_Not (a0 : Int) : Option Int :=
  bif a0 == 1 then some 5
 else bif a0 == 2 then some 6 else bif a0 == 3 then some 4 else bif a0 == 4 then some 3 else bif a0 == 5 then some 1 else bif a0 == 6 then some 2 else some a0
theorem raw_ref1_Not (a0 : Int) : evGX cx_ref1_Not keeps 8 80 ash_ref1_Not (.dat (.int .i64)) ((a0, ()) : (Int × Unit)) = g_ref1_Not a0 := by kernel_rfl
noncomputable def G_ref1_Not (x : (Int × Unit)) : Option Int := g_ref1_Not x.1
noncomputable def con_ref1_Not : List AV → Prog AV := conP true ash_ref1_Not (.dat (.int .i64)) G_ref1_Not
theorem snd_ref1_Not : SoundA Try.prog 80 con_ref1_Not := conP_sound (cal_ref1_Not 80) true (by rfl) (by rfl) (fun x r e => (evGX_eq _ _ _ _ _ _ _).trans ((raw_ref1_Not x.1).trans e)) (.inl rfl)
end Go.Proofs.Ytbdcblpjemmipaa.Ex

namespace Go.Proofs.Ytbdcblpjemmipaa.Ex
open Go.Proofs Go.Proofs.Ytbdcblpjemmipaa
set_option maxRecDepth 100000
set_option maxHeartbeats 2000000
set_option linter.unusedVariables false
set_option linter.unusedSimpArgs false
def ash_ref13_Do : List Sh := [.dat tU, .dat (.int .i64), .dat (.int .i64), .dat tE, .dat (.sl tEn)]
noncomputable def sp_ref13_Do : Nat → Option (List AV → Prog AV)
  | 73 => some (con_ref2_One)
  | 72 => some (con_ref13_with)
  | 74 => some (con_ref2_All)
  | 75 => some (con_ref13_op)
  | 36 => some (con_ref13_Read)
  | 77 => some (con_ref13_lock)
  | 78 => some (con_ref13_unlock)
  | 79 => some (con_ref13_side)
  | 80 => some (con_ref1_Not)
  | 16 => some (con_ref2_Leq)
  | 113 => some (con_ref2_Meet)
  | 49 => some (con_ref2_Empty)
  | 15 => some (con_ref2_Join)
  | _ => none
theorem hsp_ref13_Do : ∀ g p, sp_ref13_Do g = some p → SoundA Try.prog g p := by
  intro g p h
  unfold sp_ref13_Do at h
  split at h
  · cases h; exact snd_ref2_One
  · cases h; exact snd_ref13_with
  · cases h; exact snd_ref2_All
  · cases h; exact snd_ref13_op
  · cases h; exact snd_ref13_Read
  · cases h; exact snd_ref13_lock
  · cases h; exact snd_ref13_unlock
  · cases h; exact snd_ref13_side
  · cases h; exact snd_ref1_Not
  · cases h; exact snd_ref2_Leq
  · cases h; exact snd_ref2_Meet
  · cases h; exact snd_ref2_Empty
  · cases h; exact snd_ref2_Join
  · cases h
noncomputable def cx_ref13_Do : Ctx := { tab := tab, spec := sp_ref13_Do, inl := inl, lps := fun _ _ => none, fuel := 40 }
theorem in_ref13_Do : InlOk Try.prog cx_ref13_Do := ⟨inl_ok, fun _ _ _ _ _ _ _ _ h => nomatch h⟩
theorem cal_ref13_Do (g : Nat) : SoundA Try.prog g (evF cx_ref13_Do keeps 8 g) := evF_sound (tabOk_of tab_ok) (cmpsOk_of tab_ok cmps_ok) mixed in_ref13_Do hsp_ref13_Do keeps 8 g
noncomputable def g_ref13_Do (a0 : U) (a1 : Int) (a2 : Int) (a3 : E) (a4 : (List En)) : Option O :=
  bif !a3.1 then some ((false, [], [], [], 0, 0), (false, [], [], [], 0, 0), [], [], [])
 else
 bif decide (0 ≤ a1) then
 optC a0.2.2.2[a1.toNat]? none fun d6 ↦
 bif decide (0 ≤ a2) then
 optC d6.2[a2.toNat]? none fun d7 ↦
 bif d7.1 == 1 then
 optC (G_ref13_with (a3, d7.2.1, (d7.2.2.2.2.2.1, d7.2.2.2.2.2.1), ())) none fun d8 ↦
 some ((d8.1, d8.2.1, d8.2.2.1, d8.2.2.2.1, d8.2.2.2.2.1, d8.2.2.2.2.2), (false, [], [], [], 0, 0), [], [], [])
 else
 bif d7.1 == 2 then
 bif decide (0 ≤ d7.2.2.1) then
 optC a3.2.1[Int.toNat d7.2.2.1]? none fun d8 ↦
 optC (G_ref13_with (a3, d7.2.1, d8, ())) none fun d9 ↦
 some ((d9.1, d9.2.1, d9.2.2.1, d9.2.2.2.1, d9.2.2.2.2.1, d9.2.2.2.2.2), (false, [], [], [], 0, 0), [], [], [])
 else none
 else
 bif d7.1 == 3 then
 optC (G_ref13_with (a3, d7.2.1, (-2147483648, 2147483647), ())) none fun d8 ↦
 some ((d8.1, d8.2.1, d8.2.2.1, d8.2.2.2.1, d8.2.2.2.2.1, d8.2.2.2.2.2), (false, [], [], [], 0, 0), [], [], [])
 else
 bif d7.1 == 4 then
 optC (G_ref13_op (d7, a3, ())) none fun d8 ↦
 bif decide (0 < (↑(List.length d8.2.2.2.2) : Int)) then optC d8.2.2.2.2[Int.toNat 0]? none fun d9 ↦ none
 else
 some
 ((d8.1.1, d8.1.2.1, d8.1.2.2.1, d8.1.2.2.2.1, d8.1.2.2.2.2.1, d8.1.2.2.2.2.2),
 (d8.2.1.1, d8.2.1.2.1, d8.2.1.2.2.1, d8.2.1.2.2.2.1, d8.2.1.2.2.2.2.1, d8.2.1.2.2.2.2.2), d8.2.2.1,
 d8.2.2.2.1, d8.2.2.2.2)
 else
 bif d7.1 == 5 then
 optC (G_ref13_Read (a1, a3, a4, false, d7.2.2.2.2.1, ())) none fun d8 ↦
 optC (G_ref13_with (a3, d7.2.1, d8, ())) none fun d9 ↦
 some
 ((d9.1, d9.2.1, d9.2.2.1, d9.2.2.2.1, d9.2.2.2.2.1, d9.2.2.2.2.2), (false, [], [], [], 0, 0), [], [],
 [(a1, a2, false, d7.2.2.2.2.1, false, a3.2.2.2.2.1)])
 else
 bif d7.1 == 6 then
 bif decide (((List.length (α := I) []) + List.length a3.2.2.1 + 1) * 16 ≤ lim) then
 bif decide (0 ≤ d7.2.2.1) then
 optC a3.2.1[Int.toNat d7.2.2.1]? none fun d8 ↦
 bif decide (0 ≤ d7.2.2.2.2.1) then
 optC ([] ++ a3.2.2.1)[Int.toNat d7.2.2.2.2.1]? none fun d9 ↦
 optC ([] ++ a3.2.2.1)[Int.toNat d7.2.2.2.2.1]? none fun d10 ↦
 bif decide (0 ≤ d7.2.2.1) then
 optC a3.2.1[Int.toNat d7.2.2.1]? none fun d11 ↦
 some
 ((a3.1, a3.2.1, ([] ++ a3.2.2.1).set (Int.toNat d7.2.2.2.2.1) d8, a3.2.2.2.1, a3.2.2.2.2.1, a3.2.2.2.2.2),
 (false, [], [], [], 0, 0), [], [(a1, false, d7.2.2.2.2.1, a3.2.2.2.2.1, d11.1, d11.2)],
 [(a1, a2, false, d7.2.2.2.2.1, true, a3.2.2.2.2.1)])
 else none
 else none
 else none
 else none
 else
 bif d7.1 == 7 then
 bif decide (0 ≤ d7.2.2.2.2.1) then
 optC a0.2.1[Int.toNat d7.2.2.2.2.1]? none fun d8 ↦
 bif decide (0 ≤ d7.2.2.1) then
 optC a3.2.1[Int.toNat d7.2.2.1]? none fun d9 ↦
 optC (G_ref2_Leq (d9, (0, Go.IntKind.i64.wrap (d8 - 1)), ())) none fun d10 ↦
 bif !d10 then
 optC (G_ref2_Meet (d9, (0, Go.IntKind.i64.wrap (d8 - 1)), ())) none fun d11 ↦
 bif d7.1 == 8 then
 bif decide (0 ≤ d7.2.2.2.1) then
 optC a3.2.1[Int.toNat d7.2.2.2.1]? none fun d12 ↦
 bif decide (d11.1 > d11.2) then
 some
 ((false, [], [], [], 0, 0), (false, [], [], [], 0, 0), [9],
 [(a1, true, d7.2.2.2.2.1, a3.2.2.2.2.1, d12.1, d12.2)],
 [(a1, a2, true, d7.2.2.2.2.1, d7.1 == 8, a3.2.2.2.2.1)])
 else
 optC (G_ref13_with (a3, d7.2.2.1, d11, ())) none fun d13 ↦
 bif d7.1 == 7 then
 optC (G_ref13_Read (a1, d13, a4, true, d7.2.2.2.2.1, ())) none fun d14 ↦
 optC (G_ref13_with (d13, d7.2.1, d14, ())) none fun d15 ↦
 some
 ((d15.1, d15.2.1, d15.2.2.1, d15.2.2.2.1, d15.2.2.2.2.1, d15.2.2.2.2.2), (false, [], [], [], 0, 0),
 [9], [(a1, true, d7.2.2.2.2.1, a3.2.2.2.2.1, d12.1, d12.2)],
 [(a1, a2, true, d7.2.2.2.2.1, d7.1 == 8, a3.2.2.2.2.1)])
 else
 bif decide (((List.length (α := I) []) + List.length d13.2.2.2.1 + 1) * 16 ≤ lim) then
 bif decide (0 ≤ d7.2.2.2.2.1) then
 optC ([] ++ d13.2.2.2.1)[Int.toNat d7.2.2.2.2.1]? none fun d14 ↦
 optC ([] ++ d13.2.2.2.1)[Int.toNat d7.2.2.2.2.1]? none fun d15 ↦
 bif decide (0 ≤ d7.2.2.2.1) then
 optC d13.2.1[Int.toNat d7.2.2.2.1]? none fun d16 ↦
 optC (G_ref2_Join (d15, d16, ())) none fun d17 ↦
 bif decide (0 ≤ d7.2.2.2.2.1) then
 optC ([] ++ d13.2.2.2.1)[Int.toNat d7.2.2.2.2.1]? none fun d18 ↦
 optC ([] ++ d13.2.2.2.1)[Int.toNat d7.2.2.2.2.1]? none fun d19 ↦
 some
 ((d13.1, d13.2.1, d13.2.2.1, ([] ++ d13.2.2.2.1).set (Int.toNat d7.2.2.2.2.1) d17,
 d13.2.2.2.2.1, d13.2.2.2.2.2),
 (false, [], [], [], 0, 0), [9], [(a1, true, d7.2.2.2.2.1, a3.2.2.2.2.1, d12.1, d12.2)],
 [(a1, a2, true, d7.2.2.2.2.1, d7.1 == 8, a3.2.2.2.2.1)])
 else none
 else none
 else none
 else none
 else none
 else
 bif decide (d11.1 > d11.2) then
 some
 ((false, [], [], [], 0, 0), (false, [], [], [], 0, 0), [9], [],
 [(a1, a2, true, d7.2.2.2.2.1, d7.1 == 8, a3.2.2.2.2.1)])
 else
 optC (G_ref13_with (a3, d7.2.2.1, d11, ())) none fun d12 ↦
 bif d7.1 == 7 then
 optC (G_ref13_Read (a1, d12, a4, true, d7.2.2.2.2.1, ())) none fun d13 ↦
 optC (G_ref13_with (d12, d7.2.1, d13, ())) none fun d14 ↦
 some
 ((d14.1, d14.2.1, d14.2.2.1, d14.2.2.2.1, d14.2.2.2.2.1, d14.2.2.2.2.2), (false, [], [], [], 0, 0),
 [9], [], [(a1, a2, true, d7.2.2.2.2.1, d7.1 == 8, a3.2.2.2.2.1)])
 else
 bif decide (((List.length (α := I) []) + List.length d12.2.2.2.1 + 1) * 16 ≤ lim) then
 bif decide (0 ≤ d7.2.2.2.2.1) then
 optC ([] ++ d12.2.2.2.1)[Int.toNat d7.2.2.2.2.1]? none fun d13 ↦
 optC ([] ++ d12.2.2.2.1)[Int.toNat d7.2.2.2.2.1]? none fun d14 ↦
 bif decide (0 ≤ d7.2.2.2.1) then
 optC d12.2.1[Int.toNat d7.2.2.2.1]? none fun d15 ↦
 optC (G_ref2_Join (d14, d15, ())) none fun d16 ↦
 bif decide (0 ≤ d7.2.2.2.2.1) then
 optC ([] ++ d12.2.2.2.1)[Int.toNat d7.2.2.2.2.1]? none fun d17 ↦
 optC ([] ++ d12.2.2.2.1)[Int.toNat d7.2.2.2.2.1]? none fun d18 ↦
 some
 ((d12.1, d12.2.1, d12.2.2.1, ([] ++ d12.2.2.2.1).set (Int.toNat d7.2.2.2.2.1) d16,
 d12.2.2.2.2.1, d12.2.2.2.2.2),
 (false, [], [], [], 0, 0), [9], [], [(a1, a2, true, d7.2.2.2.2.1, d7.1 == 8, a3.2.2.2.2.1)])
 else none
 else none
 else none
 else none
 else
 optC (G_ref2_Meet (d9, (0, Go.IntKind.i64.wrap (d8 - 1)), ())) none fun d11 ↦
 bif d7.1 == 8 then
 bif decide (0 ≤ d7.2.2.2.1) then
 optC a3.2.1[Int.toNat d7.2.2.2.1]? none fun d12 ↦
 bif decide (d11.1 > d11.2) then
 some
 ((false, [], [], [], 0, 0), (false, [], [], [], 0, 0), [],
 [(a1, true, d7.2.2.2.2.1, a3.2.2.2.2.1, d12.1, d12.2)],
 [(a1, a2, true, d7.2.2.2.2.1, d7.1 == 8, a3.2.2.2.2.1)])
 else
 optC (G_ref13_with (a3, d7.2.2.1, d11, ())) none fun d13 ↦
 bif d7.1 == 7 then
 optC (G_ref13_Read (a1, d13, a4, true, d7.2.2.2.2.1, ())) none fun d14 ↦
 optC (G_ref13_with (d13, d7.2.1, d14, ())) none fun d15 ↦
 some
 ((d15.1, d15.2.1, d15.2.2.1, d15.2.2.2.1, d15.2.2.2.2.1, d15.2.2.2.2.2), (false, [], [], [], 0, 0),
 [], [(a1, true, d7.2.2.2.2.1, a3.2.2.2.2.1, d12.1, d12.2)],
 [(a1, a2, true, d7.2.2.2.2.1, d7.1 == 8, a3.2.2.2.2.1)])
 else
 bif decide (((List.length (α := I) []) + List.length d13.2.2.2.1 + 1) * 16 ≤ lim) then
 bif decide (0 ≤ d7.2.2.2.2.1) then
 optC ([] ++ d13.2.2.2.1)[Int.toNat d7.2.2.2.2.1]? none fun d14 ↦
 optC ([] ++ d13.2.2.2.1)[Int.toNat d7.2.2.2.2.1]? none fun d15 ↦
 bif decide (0 ≤ d7.2.2.2.1) then
 optC d13.2.1[Int.toNat d7.2.2.2.1]? none fun d16 ↦
 optC (G_ref2_Join (d15, d16, ())) none fun d17 ↦
 bif decide (0 ≤ d7.2.2.2.2.1) then
 optC ([] ++ d13.2.2.2.1)[Int.toNat d7.2.2.2.2.1]? none fun d18 ↦
 optC ([] ++ d13.2.2.2.1)[Int.toNat d7.2.2.2.2.1]? none fun d19 ↦
 some
 ((d13.1, d13.2.1, d13.2.2.1, ([] ++ d13.2.2.2.1).set (Int.toNat d7.2.2.2.2.1) d17,
 d13.2.2.2.2.1, d13.2.2.2.2.2),
 (false, [], [], [], 0, 0), [], [(a1, true, d7.2.2.2.2.1, a3.2.2.2.2.1, d12.1, d12.2)],
 [(a1, a2, true, d7.2.2.2.2.1, d7.1 == 8, a3.2.2.2.2.1)])
 else none
 else none
 else none
 else none
 else none
 else
 bif decide (d11.1 > d11.2) then
 some
 ((false, [], [], [], 0, 0), (false, [], [], [], 0, 0), [], [], [(a1, a2, true, d7.2.2.2.2.1, d7.1 == 8, a3.2.2.2.2.1)])
 else
 optC (G_ref13_with (a3, d7.2.2.1, d11, ())) none fun d12 ↦
 bif d7.1 == 7 then
 optC (G_ref13_Read (a1, d12, a4, true, d7.2.2.2.2.1, ())) none fun d13 ↦
 optC (G_ref13_with (d12, d7.2.1, d13, ())) none fun d14 ↦
 some
 ((d14.1, d14.2.1, d14.2.2.1, d14.2.2.2.1, d14.2.2.2.2.1, d14.2.2.2.2.2), (false, [], [], [], 0, 0), [],
 [], [(a1, a2, true, d7.2.2.2.2.1, d7.1 == 8, a3.2.2.2.2.1)])
 else
 bif decide (((List.length (α := I) []) + List.length d12.2.2.2.1 + 1) * 16 ≤ lim) then
 bif decide (0 ≤ d7.2.2.2.2.1) then
 optC ([] ++ d12.2.2.2.1)[Int.toNat d7.2.2.2.2.1]? none fun d13 ↦
 optC ([] ++ d12.2.2.2.1)[Int.toNat d7.2.2.2.2.1]? none fun d14 ↦
 bif decide (0 ≤ d7.2.2.2.1) then
 optC d12.2.1[Int.toNat d7.2.2.2.1]? none fun d15 ↦
 optC (G_ref2_Join (d14, d15, ())) none fun d16 ↦
 bif decide (0 ≤ d7.2.2.2.2.1) then
 optC ([] ++ d12.2.2.2.1)[Int.toNat d7.2.2.2.2.1]? none fun d17 ↦
 optC ([] ++ d12.2.2.2.1)[Int.toNat d7.2.2.2.2.1]? none fun d18 ↦
 some
 ((d12.1, d12.2.1, d12.2.2.1, ([] ++ d12.2.2.2.1).set (Int.toNat d7.2.2.2.2.1) d16,
 d12.2.2.2.2.1, d12.2.2.2.2.2),
 (false, [], [], [], 0, 0), [], [], [(a1, a2, true, d7.2.2.2.2.1, d7.1 == 8, a3.2.2.2.2.1)])
 else none
 else none
 else none
 else none
 else none
 else none
 else
 bif d7.1 == 8 then
 bif decide (0 ≤ d7.2.2.2.2.1) then
 optC a0.2.1[Int.toNat d7.2.2.2.2.1]? none fun d8 ↦
 bif decide (0 ≤ d7.2.2.1) then
 optC a3.2.1[Int.toNat d7.2.2.1]? none fun d9 ↦
 optC (G_ref2_Leq (d9, (0, Go.IntKind.i64.wrap (d8 - 1)), ())) none fun d10 ↦
 bif !d10 then
 optC (G_ref2_Meet (d9, (0, Go.IntKind.i64.wrap (d8 - 1)), ())) none fun d11 ↦
 bif d7.1 == 8 then
 bif decide (0 ≤ d7.2.2.2.1) then
 optC a3.2.1[Int.toNat d7.2.2.2.1]? none fun d12 ↦
 bif decide (d11.1 > d11.2) then
 some
 ((false, [], [], [], 0, 0), (false, [], [], [], 0, 0), [9],
 [(a1, true, d7.2.2.2.2.1, a3.2.2.2.2.1, d12.1, d12.2)],
 [(a1, a2, true, d7.2.2.2.2.1, d7.1 == 8, a3.2.2.2.2.1)])
 else
 optC (G_ref13_with (a3, d7.2.2.1, d11, ())) none fun d13 ↦
 bif d7.1 == 7 then
 optC (G_ref13_Read (a1, d13, a4, true, d7.2.2.2.2.1, ())) none fun d14 ↦
 optC (G_ref13_with (d13, d7.2.1, d14, ())) none fun d15 ↦
 some
 ((d15.1, d15.2.1, d15.2.2.1, d15.2.2.2.1, d15.2.2.2.2.1, d15.2.2.2.2.2),
 (false, [], [], [], 0, 0), [9], [(a1, true, d7.2.2.2.2.1, a3.2.2.2.2.1, d12.1, d12.2)],
 [(a1, a2, true, d7.2.2.2.2.1, d7.1 == 8, a3.2.2.2.2.1)])
 else
 bif decide (((List.length (α := I) []) + List.length d13.2.2.2.1 + 1) * 16 ≤ lim) then
 bif decide (0 ≤ d7.2.2.2.2.1) then
 optC ([] ++ d13.2.2.2.1)[Int.toNat d7.2.2.2.2.1]? none fun d14 ↦
 optC ([] ++ d13.2.2.2.1)[Int.toNat d7.2.2.2.2.1]? none fun d15 ↦
 bif decide (0 ≤ d7.2.2.2.1) then
 optC d13.2.1[Int.toNat d7.2.2.2.1]? none fun d16 ↦
 optC (G_ref2_Join (d15, d16, ())) none fun d17 ↦
 bif decide (0 ≤ d7.2.2.2.2.1) then
 optC ([] ++ d13.2.2.2.1)[Int.toNat d7.2.2.2.2.1]? none fun d18 ↦
 optC ([] ++ d13.2.2.2.1)[Int.toNat d7.2.2.2.2.1]? none fun d19 ↦
 some
 ((d13.1, d13.2.1, d13.2.2.1, ([] ++ d13.2.2.2.1).set (Int.toNat d7.2.2.2.2.1) d17,
 d13.2.2.2.2.1, d13.2.2.2.2.2),
 (false, [], [], [], 0, 0), [9], [(a1, true, d7.2.2.2.2.1, a3.2.2.2.2.1, d12.1, d12.2)],
 [(a1, a2, true, d7.2.2.2.2.1, d7.1 == 8, a3.2.2.2.2.1)])
 else none
 else none
 else none
 else none
 else none
 else
 bif decide (d11.1 > d11.2) then
 some
 ((false, [], [], [], 0, 0), (false, [], [], [], 0, 0), [9], [],
 [(a1, a2, true, d7.2.2.2.2.1, d7.1 == 8, a3.2.2.2.2.1)])
 else
 optC (G_ref13_with (a3, d7.2.2.1, d11, ())) none fun d12 ↦
 bif d7.1 == 7 then
 optC (G_ref13_Read (a1, d12, a4, true, d7.2.2.2.2.1, ())) none fun d13 ↦
 optC (G_ref13_with (d12, d7.2.1, d13, ())) none fun d14 ↦
 some
 ((d14.1, d14.2.1, d14.2.2.1, d14.2.2.2.1, d14.2.2.2.2.1, d14.2.2.2.2.2), (false, [], [], [], 0, 0),
 [9], [], [(a1, a2, true, d7.2.2.2.2.1, d7.1 == 8, a3.2.2.2.2.1)])
 else
 bif decide (((List.length (α := I) []) + List.length d12.2.2.2.1 + 1) * 16 ≤ lim) then
 bif decide (0 ≤ d7.2.2.2.2.1) then
 optC ([] ++ d12.2.2.2.1)[Int.toNat d7.2.2.2.2.1]? none fun d13 ↦
 optC ([] ++ d12.2.2.2.1)[Int.toNat d7.2.2.2.2.1]? none fun d14 ↦
 bif decide (0 ≤ d7.2.2.2.1) then
 optC d12.2.1[Int.toNat d7.2.2.2.1]? none fun d15 ↦
 optC (G_ref2_Join (d14, d15, ())) none fun d16 ↦
 bif decide (0 ≤ d7.2.2.2.2.1) then
 optC ([] ++ d12.2.2.2.1)[Int.toNat d7.2.2.2.2.1]? none fun d17 ↦
 optC ([] ++ d12.2.2.2.1)[Int.toNat d7.2.2.2.2.1]? none fun d18 ↦
 some
 ((d12.1, d12.2.1, d12.2.2.1, ([] ++ d12.2.2.2.1).set (Int.toNat d7.2.2.2.2.1) d16,
 d12.2.2.2.2.1, d12.2.2.2.2.2),
 (false, [], [], [], 0, 0), [9], [], [(a1, a2, true, d7.2.2.2.2.1, d7.1 == 8, a3.2.2.2.2.1)])
 else none
 else none
 else none
 else none
 else
 optC (G_ref2_Meet (d9, (0, Go.IntKind.i64.wrap (d8 - 1)), ())) none fun d11 ↦
 bif d7.1 == 8 then
 bif decide (0 ≤ d7.2.2.2.1) then
 optC a3.2.1[Int.toNat d7.2.2.2.1]? none fun d12 ↦
 bif decide (d11.1 > d11.2) then
 some
 ((false, [], [], [], 0, 0), (false, [], [], [], 0, 0), [],
 [(a1, true, d7.2.2.2.2.1, a3.2.2.2.2.1, d12.1, d12.2)],
 [(a1, a2, true, d7.2.2.2.2.1, d7.1 == 8, a3.2.2.2.2.1)])
 else
 optC (G_ref13_with (a3, d7.2.2.1, d11, ())) none fun d13 ↦
 bif d7.1 == 7 then
 optC (G_ref13_Read (a1, d13, a4, true, d7.2.2.2.2.1, ())) none fun d14 ↦
 optC (G_ref13_with (d13, d7.2.1, d14, ())) none fun d15 ↦
 some
 ((d15.1, d15.2.1, d15.2.2.1, d15.2.2.2.1, d15.2.2.2.2.1, d15.2.2.2.2.2),
 (false, [], [], [], 0, 0), [], [(a1, true, d7.2.2.2.2.1, a3.2.2.2.2.1, d12.1, d12.2)],
 [(a1, a2, true, d7.2.2.2.2.1, d7.1 == 8, a3.2.2.2.2.1)])
 else
 bif decide (((List.length (α := I) []) + List.length d13.2.2.2.1 + 1) * 16 ≤ lim) then
 bif decide (0 ≤ d7.2.2.2.2.1) then
 optC ([] ++ d13.2.2.2.1)[Int.toNat d7.2.2.2.2.1]? none fun d14 ↦
 optC ([] ++ d13.2.2.2.1)[Int.toNat d7.2.2.2.2.1]? none fun d15 ↦
 bif decide (0 ≤ d7.2.2.2.1) then
 optC d13.2.1[Int.toNat d7.2.2.2.1]? none fun d16 ↦
 optC (G_ref2_Join (d15, d16, ())) none fun d17 ↦
 bif decide (0 ≤ d7.2.2.2.2.1) then
 optC ([] ++ d13.2.2.2.1)[Int.toNat d7.2.2.2.2.1]? none fun d18 ↦
 optC ([] ++ d13.2.2.2.1)[Int.toNat d7.2.2.2.2.1]? none fun d19 ↦
 some
 ((d13.1, d13.2.1, d13.2.2.1, ([] ++ d13.2.2.2.1).set (Int.toNat d7.2.2.2.2.1) d17,
 d13.2.2.2.2.1, d13.2.2.2.2.2),
 (false, [], [], [], 0, 0), [], [(a1, true, d7.2.2.2.2.1, a3.2.2.2.2.1, d12.1, d12.2)],
 [(a1, a2, true, d7.2.2.2.2.1, d7.1 == 8, a3.2.2.2.2.1)])
 else none
 else none
 else none
 else none
 else none
 else
 bif decide (d11.1 > d11.2) then
 some
 ((false, [], [], [], 0, 0), (false, [], [], [], 0, 0), [], [],
 [(a1, a2, true, d7.2.2.2.2.1, d7.1 == 8, a3.2.2.2.2.1)])
 else
 optC (G_ref13_with (a3, d7.2.2.1, d11, ())) none fun d12 ↦
 bif d7.1 == 7 then
 optC (G_ref13_Read (a1, d12, a4, true, d7.2.2.2.2.1, ())) none fun d13 ↦
 optC (G_ref13_with (d12, d7.2.1, d13, ())) none fun d14 ↦
 some
 ((d14.1, d14.2.1, d14.2.2.1, d14.2.2.2.1, d14.2.2.2.2.1, d14.2.2.2.2.2), (false, [], [], [], 0, 0),
 [], [], [(a1, a2, true, d7.2.2.2.2.1, d7.1 == 8, a3.2.2.2.2.1)])
 else
 bif decide (((List.length (α := I) []) + List.length d12.2.2.2.1 + 1) * 16 ≤ lim) then
 bif decide (0 ≤ d7.2.2.2.2.1) then
 optC ([] ++ d12.2.2.2.1)[Int.toNat d7.2.2.2.2.1]? none fun d13 ↦
 optC ([] ++ d12.2.2.2.1)[Int.toNat d7.2.2.2.2.1]? none fun d14 ↦
 bif decide (0 ≤ d7.2.2.2.1) then
 optC d12.2.1[Int.toNat d7.2.2.2.1]? none fun d15 ↦
 optC (G_ref2_Join (d14, d15, ())) none fun d16 ↦
 bif decide (0 ≤ d7.2.2.2.2.1) then
 optC ([] ++ d12.2.2.2.1)[Int.toNat d7.2.2.2.2.1]? none fun d17 ↦
 optC ([] ++ d12.2.2.2.1)[Int.toNat d7.2.2.2.2.1]? none fun d18 ↦
 some
 ((d12.1, d12.2.1, d12.2.2.1, ([] ++ d12.2.2.2.1).set (Int.toNat d7.2.2.2.2.1) d16,
 d12.2.2.2.2.1, d12.2.2.2.2.2),
 (false, [], [], [], 0, 0), [], [], [(a1, a2, true, d7.2.2.2.2.1, d7.1 == 8, a3.2.2.2.2.1)])
 else none
 else none
 else none
 else none
 else none
 else none
 else
 bif d7.1 == 9 then
 optC (G_ref13_lock (a1, d7, a3, a4, ())) none fun d8 ↦
 bif decide (0 < (↑(List.length d8.2.2.2.2) : Int)) then optC d8.2.2.2.2[Int.toNat 0]? none fun d9 ↦ none
 else
 some
 ((d8.1.1, d8.1.2.1, d8.1.2.2.1, d8.1.2.2.2.1, d8.1.2.2.2.2.1, d8.1.2.2.2.2.2),
 (d8.2.1.1, d8.2.1.2.1, d8.2.1.2.2.1, d8.2.1.2.2.2.1, d8.2.1.2.2.2.2.1, d8.2.1.2.2.2.2.2),
 d8.2.2.1, d8.2.2.2.1, d8.2.2.2.2)
 else
 bif d7.1 == 10 then
 optC (G_ref13_unlock (d7, a3, ())) none fun d8 ↦
 bif decide (0 < (↑(List.length d8.2.2.2.2) : Int)) then optC d8.2.2.2.2[Int.toNat 0]? none fun d9 ↦ none
 else
 some
 ((d8.1.1, d8.1.2.1, d8.1.2.2.1, d8.1.2.2.2.1, d8.1.2.2.2.2.1, d8.1.2.2.2.2.2),
 (d8.2.1.1, d8.2.1.2.1, d8.2.1.2.2.1, d8.2.1.2.2.2.1, d8.2.1.2.2.2.2.1, d8.2.1.2.2.2.2.2),
 d8.2.2.1, d8.2.2.2.1, d8.2.2.2.2)
 else
 bif d7.1 == 11 then
 optC (G_ref13_side (d7, a3, d7.2.2.2.2.2.2.1, ())) none fun d8 ↦
 optC (G_ref1_Not (d7.2.2.2.2.2.2.1, ())) none fun d9 ↦
 optC (G_ref13_side (d7, a3, d9, ())) none fun d10 ↦
 some
 ((d8.1, d8.2.1, d8.2.2.1, d8.2.2.2.1, d8.2.2.2.2.1, d8.2.2.2.2.2),
 (d10.1, d10.2.1, d10.2.2.1, d10.2.2.2.1, d10.2.2.2.2.1, d10.2.2.2.2.2), [], [], [])
 else
 bif d7.1 == 13 then some ((false, [], [], [], 0, 0), (false, [], [], [], 0, 0), [10], [], [])
 else
 bif d7.1 == 14 then some ((false, [], [], [], 0, 0), (false, [], [], [], 0, 0), [], [], [])
 else
 some ((a3.1, a3.2.1, a3.2.2.1, a3.2.2.2.1, a3.2.2.2.2.1, a3.2.2.2.2.2), (false, [], [], [], 0, 0), [], [], [])
 else none
 else none
theorem raw_ref13_Do (a0 : U) (a1 : Int) (a2 : Int) (a3 : E) (a4 : (List En)) : evGX cx_ref13_Do keeps 8 34 ash_ref13_Do (.dat tO) ((a0, a1, a2, a3, a4, ()) : (U × (Int × (Int × (E × ((List En) × Unit)))))) = g_ref13_Do a0 a1 a2 a3 a4 := by kernel_rfl
noncomputable def G_ref13_Do (x : (U × (Int × (Int × (E × ((List En) × Unit)))))) : Option O := g_ref13_Do x.1 x.2.1 x.2.2.1 x.2.2.2.1 x.2.2.2.2.1
noncomputable def con_ref13_Do : List AV → Prog AV := conP true ash_ref13_Do (.dat tO) G_ref13_Do
theorem snd_ref13_Do : SoundA Try.prog 34 con_ref13_Do := conP_sound (cal_ref13_Do 34) true (by rfl) (by rfl) (fun x r e => (evGX_eq _ _ _ _ _ _ _).trans ((raw_ref13_Do x.1 x.2.1 x.2.2.1 x.2.2.2.1 x.2.2.2.2.1).trans e)) (.inl rfl)
end Go.Proofs.Ytbdcblpjemmipaa.Ex

namespace Go.Proofs.Ytbdcblpjemmipaa.Ex
open Go.Proofs
set_option maxRecDepth 100000
set_option maxHeartbeats 2000000
set_option linter.unusedVariables false
set_option linter.unusedSimpArgs false
noncomputable def bF (u : U) (t n : Int) (e : E) (l : List En) (c : C) (a : A) : Option O :=
  bif a.1 == 1 then
   optC (G_itv_Of ([a.2.2.2.2.2.1], ())) (none) fun d8 ↦
   bif decide (((List.length (α := I) []) + List.length e.2.1 + 1) * 16 ≤ lim) then
   bif decide (0 ≤ a.2.1) then
   optC ([] ++ e.2.1)[Int.toNat a.2.1]? (none) fun d9 ↦
   optC ([] ++ e.2.1)[Int.toNat a.2.1]? (none) fun d10 ↦
   some ((e.1, ([] ++ e.2.1).set (Int.toNat a.2.1) d8, e.2.2.1, e.2.2.2.1, e.2.2.2.2.1, e.2.2.2.2.2), (false, [], [], [], 0, 0), [], [], [])
 else none
 else none
 else bif a.1 == 2 then
   bif decide (0 ≤ a.2.2.1) then
   optC e.2.1[Int.toNat a.2.2.1]? (none) fun d8 ↦
   bif decide (((List.length (α := I) []) + List.length e.2.1 + 1) * 16 ≤ lim) then
   bif decide (0 ≤ a.2.1) then
   optC ([] ++ e.2.1)[Int.toNat a.2.1]? (none) fun d9 ↦
   optC ([] ++ e.2.1)[Int.toNat a.2.1]? (none) fun d10 ↦
   some ((e.1, ([] ++ e.2.1).set (Int.toNat a.2.1) d8, e.2.2.1, e.2.2.2.1, e.2.2.2.2.1, e.2.2.2.2.2), (false, [], [], [], 0, 0), [], [], [])
 else none
 else none
 else none
 else bif a.1 == 3 then
   bif decide (((List.length (α := I) []) + List.length e.2.1 + 1) * 16 ≤ lim) then
   bif decide (0 ≤ a.2.1) then
   optC ([] ++ e.2.1)[Int.toNat a.2.1]? (none) fun d8 ↦
   optC ([] ++ e.2.1)[Int.toNat a.2.1]? (none) fun d9 ↦
   some ((e.1, ([] ++ e.2.1).set (Int.toNat a.2.1) (-2147483648, 2147483647), e.2.2.1, e.2.2.2.1, e.2.2.2.2.1, e.2.2.2.2.2), (false, [], [], [], 0, 0), [], [], [])
 else none
 else none
 else bif a.1 == 4 then
   bif decide (0 ≤ a.2.2.1) then
   optC e.2.1[Int.toNat a.2.2.1]? (none) fun d8 ↦
   bif decide (0 ≤ a.2.2.2.1) then
   optC e.2.1[Int.toNat a.2.2.2.1]? (none) fun d9 ↦
   optC (G_itv_Do (a.2.2.2.2.2.2.1, d8, d9, ())) (none) fun d10 ↦
   bif d10.2.1 then
   bif d10.2.2.1 then
   bif !decide (d10.1.1 > d10.1.2) then
   bif decide (((List.length (α := I) []) + List.length e.2.1 + 1) * 16 ≤ lim) then
   bif decide (0 ≤ a.2.1) then
   optC ([] ++ e.2.1)[Int.toNat a.2.1]? (none) fun d11 ↦
   optC ([] ++ e.2.1)[Int.toNat a.2.1]? (none) fun d12 ↦
   some ((e.1, ([] ++ e.2.1).set (Int.toNat a.2.1) d10.1, e.2.2.1, e.2.2.2.1, e.2.2.2.2.1, e.2.2.2.2.2), (false, [], [], [], 0, 0), [7, 8], [], [])
 else none
 else none
 else some ((false, [], [], [], 0, 0), (false, [], [], [], 0, 0), [7, 8], [], [])
 else bif !decide (d10.1.1 > d10.1.2) then
   bif decide (((List.length (α := I) []) + List.length e.2.1 + 1) * 16 ≤ lim) then
   bif decide (0 ≤ a.2.1) then
   optC ([] ++ e.2.1)[Int.toNat a.2.1]? (none) fun d11 ↦
   optC ([] ++ e.2.1)[Int.toNat a.2.1]? (none) fun d12 ↦
   some ((e.1, ([] ++ e.2.1).set (Int.toNat a.2.1) d10.1, e.2.2.1, e.2.2.2.1, e.2.2.2.2.1, e.2.2.2.2.2), (false, [], [], [], 0, 0), [7], [], [])
 else none
 else none
 else some ((false, [], [], [], 0, 0), (false, [], [], [], 0, 0), [7], [], [])
 else bif d10.2.2.1 then
   bif !decide (d10.1.1 > d10.1.2) then
   bif decide (((List.length (α := I) []) + List.length e.2.1 + 1) * 16 ≤ lim) then
   bif decide (0 ≤ a.2.1) then
   optC ([] ++ e.2.1)[Int.toNat a.2.1]? (none) fun d11 ↦
   optC ([] ++ e.2.1)[Int.toNat a.2.1]? (none) fun d12 ↦
   some ((e.1, ([] ++ e.2.1).set (Int.toNat a.2.1) d10.1, e.2.2.1, e.2.2.2.1, e.2.2.2.2.1, e.2.2.2.2.2), (false, [], [], [], 0, 0), [8], [], [])
 else none
 else none
 else some ((false, [], [], [], 0, 0), (false, [], [], [], 0, 0), [8], [], [])
 else bif !decide (d10.1.1 > d10.1.2) then
   bif decide (((List.length (α := I) []) + List.length e.2.1 + 1) * 16 ≤ lim) then
   bif decide (0 ≤ a.2.1) then
   optC ([] ++ e.2.1)[Int.toNat a.2.1]? (none) fun d11 ↦
   optC ([] ++ e.2.1)[Int.toNat a.2.1]? (none) fun d12 ↦
   some ((e.1, ([] ++ e.2.1).set (Int.toNat a.2.1) d10.1, e.2.2.1, e.2.2.2.1, e.2.2.2.2.1, e.2.2.2.2.2), (false, [], [], [], 0, 0), [], [], [])
 else none
 else none
 else some ((false, [], [], [], 0, 0), (false, [], [], [], 0, 0), [], [], [])
 else none
 else none
 else bif a.1 == 5 then
   optC (G_flow_Read (u, t, e, l, false, a.2.2.2.2.1, ())) (none) fun d8 ↦
   bif decide (((List.length (α := I) []) + List.length e.2.1 + 1) * 16 ≤ lim) then
   bif decide (0 ≤ a.2.1) then
   optC ([] ++ e.2.1)[Int.toNat a.2.1]? (none) fun d9 ↦
   optC ([] ++ e.2.1)[Int.toNat a.2.1]? (none) fun d10 ↦
   some ((e.1, ([] ++ e.2.1).set (Int.toNat a.2.1) d8, e.2.2.1, e.2.2.2.1, e.2.2.2.2.1, e.2.2.2.2.2), (false, [], [], [], 0, 0), [], [], [(t, n, false, a.2.2.2.2.1, false, e.2.2.2.2.1)])
 else none
 else none
 else bif a.1 == 6 then
   bif decide (0 ≤ a.2.2.1) then
   optC e.2.1[Int.toNat a.2.2.1]? (none) fun d8 ↦
   bif decide (((List.length (α := I) []) + List.length e.2.2.1 + 1) * 16 ≤ lim) then
   bif decide (0 ≤ a.2.2.2.2.1) then
   optC ([] ++ e.2.2.1)[Int.toNat a.2.2.2.2.1]? (none) fun d9 ↦
   optC ([] ++ e.2.2.1)[Int.toNat a.2.2.2.2.1]? (none) fun d10 ↦
   some ((e.1, e.2.1, ([] ++ e.2.2.1).set (Int.toNat a.2.2.2.2.1) d8, e.2.2.2.1, e.2.2.2.2.1, e.2.2.2.2.2), (false, [], [], [], 0, 0), [], [(t, false, a.2.2.2.2.1, e.2.2.2.2.1, d8.1, d8.2)], [(t, n, false, a.2.2.2.2.1, true, e.2.2.2.2.1)])
 else none
 else none
 else none
 else bif a.1 == 7 then
   bif decide (0 ≤ a.2.2.2.2.1) then
   optC u.2.1[Int.toNat a.2.2.2.2.1]? (none) fun d8 ↦
   bif decide (0 ≤ a.2.2.1) then
   optC e.2.1[Int.toNat a.2.2.1]? (none) fun d9 ↦
   optC (G_itv_Leq (d9, (0, Go.IntKind.i64.wrap (d8 - 1)), ())) (none) fun d10 ↦
   bif !d10 then
   bif a.1 == 8 then
   bif decide (0 ≤ a.2.2.2.1) then
   optC e.2.1[Int.toNat a.2.2.2.1]? (none) fun d11 ↦
   optC (G_itv_Meet (d9, (0, Go.IntKind.i64.wrap (d8 - 1)), ())) (none) fun d12 ↦
   bif decide (d12.1 > d12.2) then
   some ((false, [], [], [], 0, 0), (false, [], [], [], 0, 0), [9], [(t, true, a.2.2.2.2.1, e.2.2.2.2.1, d11.1, d11.2)], [(t, n, true, a.2.2.2.2.1, a.1 == 8, e.2.2.2.2.1)])
 else bif decide (((List.length (α := I) []) + List.length e.2.1 + 1) * 16 ≤ lim) then
   bif decide (0 ≤ a.2.2.1) then
   optC ([] ++ e.2.1)[Int.toNat a.2.2.1]? (none) fun d13 ↦
   optC ([] ++ e.2.1)[Int.toNat a.2.2.1]? (none) fun d14 ↦
   bif !a.1 == 8 then
   optC (G_flow_Read (u, t, (e.1, ([] ++ e.2.1).set (Int.toNat a.2.2.1) d12, e.2.2), l, true, a.2.2.2.2.1, ())) (none) fun d15 ↦
   bif decide (((List.length (α := I) []) + (([] ++ e.2.1).set (Int.toNat a.2.2.1) d12).length + 1) * 16 ≤ lim) then
   bif decide (0 ≤ a.2.1) then
   optC ([] ++ ([] ++ e.2.1).set (Int.toNat a.2.2.1) d12)[Int.toNat a.2.1]? (none) fun d16 ↦
   optC ([] ++ ([] ++ e.2.1).set (Int.toNat a.2.2.1) d12)[Int.toNat a.2.1]? (none) fun d17 ↦
   some ((e.1, ([] ++ ([] ++ e.2.1).set (Int.toNat a.2.2.1) d12).set (Int.toNat a.2.1) d15, e.2.2.1, e.2.2.2.1, e.2.2.2.2.1, e.2.2.2.2.2), (false, [], [], [], 0, 0), [9], [(t, true, a.2.2.2.2.1, e.2.2.2.2.1, d11.1, d11.2)], [(t, n, true, a.2.2.2.2.1, a.1 == 8, e.2.2.2.2.1)])
 else none
 else none
 else bif decide (((List.length (α := I) []) + List.length e.2.2.2.1 + 1) * 16 ≤ lim) then
   bif decide (0 ≤ a.2.2.2.2.1) then
   optC ([] ++ e.2.2.2.1)[Int.toNat a.2.2.2.2.1]? (none) fun d15 ↦
   optC ([] ++ e.2.2.2.1)[Int.toNat a.2.2.2.2.1]? (none) fun d16 ↦
   bif decide (0 ≤ a.2.2.2.1) then
   optC (([] ++ e.2.1).set (Int.toNat a.2.2.1) d12)[Int.toNat a.2.2.2.1]? (none) fun d17 ↦
   optC (([] ++ e.2.1).set (Int.toNat a.2.2.1) d12)[Int.toNat a.2.2.2.1]? (none) fun d18 ↦
   optC (G_itv_Join ([d16, d18], ())) (none) fun d19 ↦
   bif decide (0 ≤ a.2.2.2.2.1) then
   optC ([] ++ e.2.2.2.1)[Int.toNat a.2.2.2.2.1]? (none) fun d20 ↦
   optC ([] ++ e.2.2.2.1)[Int.toNat a.2.2.2.2.1]? (none) fun d21 ↦
   some ((e.1, ([] ++ e.2.1).set (Int.toNat a.2.2.1) d12, e.2.2.1, ([] ++ e.2.2.2.1).set (Int.toNat a.2.2.2.2.1) d19, e.2.2.2.2.1, e.2.2.2.2.2), (false, [], [], [], 0, 0), [9], [(t, true, a.2.2.2.2.1, e.2.2.2.2.1, d11.1, d11.2)], [(t, n, true, a.2.2.2.2.1, a.1 == 8, e.2.2.2.2.1)])
 else none
 else none
 else none
 else none
 else none
 else none
 else none
 else optC (G_itv_Meet (d9, (0, Go.IntKind.i64.wrap (d8 - 1)), ())) (none) fun d11 ↦
   bif decide (d11.1 > d11.2) then
   some ((false, [], [], [], 0, 0), (false, [], [], [], 0, 0), [9], [], [(t, n, true, a.2.2.2.2.1, a.1 == 8, e.2.2.2.2.1)])
 else bif decide (((List.length (α := I) []) + List.length e.2.1 + 1) * 16 ≤ lim) then
   bif decide (0 ≤ a.2.2.1) then
   optC ([] ++ e.2.1)[Int.toNat a.2.2.1]? (none) fun d12 ↦
   optC ([] ++ e.2.1)[Int.toNat a.2.2.1]? (none) fun d13 ↦
   bif !a.1 == 8 then
   optC (G_flow_Read (u, t, (e.1, ([] ++ e.2.1).set (Int.toNat a.2.2.1) d11, e.2.2), l, true, a.2.2.2.2.1, ())) (none) fun d14 ↦
   bif decide (((List.length (α := I) []) + (([] ++ e.2.1).set (Int.toNat a.2.2.1) d11).length + 1) * 16 ≤ lim) then
   bif decide (0 ≤ a.2.1) then
   optC ([] ++ ([] ++ e.2.1).set (Int.toNat a.2.2.1) d11)[Int.toNat a.2.1]? (none) fun d15 ↦
   optC ([] ++ ([] ++ e.2.1).set (Int.toNat a.2.2.1) d11)[Int.toNat a.2.1]? (none) fun d16 ↦
   some ((e.1, ([] ++ ([] ++ e.2.1).set (Int.toNat a.2.2.1) d11).set (Int.toNat a.2.1) d14, e.2.2.1, e.2.2.2.1, e.2.2.2.2.1, e.2.2.2.2.2), (false, [], [], [], 0, 0), [9], [], [(t, n, true, a.2.2.2.2.1, a.1 == 8, e.2.2.2.2.1)])
 else none
 else none
 else bif decide (((List.length (α := I) []) + List.length e.2.2.2.1 + 1) * 16 ≤ lim) then
   bif decide (0 ≤ a.2.2.2.2.1) then
   optC ([] ++ e.2.2.2.1)[Int.toNat a.2.2.2.2.1]? (none) fun d14 ↦
   optC ([] ++ e.2.2.2.1)[Int.toNat a.2.2.2.2.1]? (none) fun d15 ↦
   bif decide (0 ≤ a.2.2.2.1) then
   optC (([] ++ e.2.1).set (Int.toNat a.2.2.1) d11)[Int.toNat a.2.2.2.1]? (none) fun d16 ↦
   optC (([] ++ e.2.1).set (Int.toNat a.2.2.1) d11)[Int.toNat a.2.2.2.1]? (none) fun d17 ↦
   optC (G_itv_Join ([d15, d17], ())) (none) fun d18 ↦
   bif decide (0 ≤ a.2.2.2.2.1) then
   optC ([] ++ e.2.2.2.1)[Int.toNat a.2.2.2.2.1]? (none) fun d19 ↦
   optC ([] ++ e.2.2.2.1)[Int.toNat a.2.2.2.2.1]? (none) fun d20 ↦
   some ((e.1, ([] ++ e.2.1).set (Int.toNat a.2.2.1) d11, e.2.2.1, ([] ++ e.2.2.2.1).set (Int.toNat a.2.2.2.2.1) d18, e.2.2.2.2.1, e.2.2.2.2.2), (false, [], [], [], 0, 0), [9], [], [(t, n, true, a.2.2.2.2.1, a.1 == 8, e.2.2.2.2.1)])
 else none
 else none
 else none
 else none
 else none
 else none
 else bif a.1 == 8 then
   bif decide (0 ≤ a.2.2.2.1) then
   optC e.2.1[Int.toNat a.2.2.2.1]? (none) fun d11 ↦
   optC (G_itv_Meet (d9, (0, Go.IntKind.i64.wrap (d8 - 1)), ())) (none) fun d12 ↦
   bif decide (d12.1 > d12.2) then
   some ((false, [], [], [], 0, 0), (false, [], [], [], 0, 0), [], [(t, true, a.2.2.2.2.1, e.2.2.2.2.1, d11.1, d11.2)], [(t, n, true, a.2.2.2.2.1, a.1 == 8, e.2.2.2.2.1)])
 else bif decide (((List.length (α := I) []) + List.length e.2.1 + 1) * 16 ≤ lim) then
   bif decide (0 ≤ a.2.2.1) then
   optC ([] ++ e.2.1)[Int.toNat a.2.2.1]? (none) fun d13 ↦
   optC ([] ++ e.2.1)[Int.toNat a.2.2.1]? (none) fun d14 ↦
   bif !a.1 == 8 then
   optC (G_flow_Read (u, t, (e.1, ([] ++ e.2.1).set (Int.toNat a.2.2.1) d12, e.2.2), l, true, a.2.2.2.2.1, ())) (none) fun d15 ↦
   bif decide (((List.length (α := I) []) + (([] ++ e.2.1).set (Int.toNat a.2.2.1) d12).length + 1) * 16 ≤ lim) then
   bif decide (0 ≤ a.2.1) then
   optC ([] ++ ([] ++ e.2.1).set (Int.toNat a.2.2.1) d12)[Int.toNat a.2.1]? (none) fun d16 ↦
   optC ([] ++ ([] ++ e.2.1).set (Int.toNat a.2.2.1) d12)[Int.toNat a.2.1]? (none) fun d17 ↦
   some ((e.1, ([] ++ ([] ++ e.2.1).set (Int.toNat a.2.2.1) d12).set (Int.toNat a.2.1) d15, e.2.2.1, e.2.2.2.1, e.2.2.2.2.1, e.2.2.2.2.2), (false, [], [], [], 0, 0), [], [(t, true, a.2.2.2.2.1, e.2.2.2.2.1, d11.1, d11.2)], [(t, n, true, a.2.2.2.2.1, a.1 == 8, e.2.2.2.2.1)])
 else none
 else none
 else bif decide (((List.length (α := I) []) + List.length e.2.2.2.1 + 1) * 16 ≤ lim) then
   bif decide (0 ≤ a.2.2.2.2.1) then
   optC ([] ++ e.2.2.2.1)[Int.toNat a.2.2.2.2.1]? (none) fun d15 ↦
   optC ([] ++ e.2.2.2.1)[Int.toNat a.2.2.2.2.1]? (none) fun d16 ↦
   bif decide (0 ≤ a.2.2.2.1) then
   optC (([] ++ e.2.1).set (Int.toNat a.2.2.1) d12)[Int.toNat a.2.2.2.1]? (none) fun d17 ↦
   optC (([] ++ e.2.1).set (Int.toNat a.2.2.1) d12)[Int.toNat a.2.2.2.1]? (none) fun d18 ↦
   optC (G_itv_Join ([d16, d18], ())) (none) fun d19 ↦
   bif decide (0 ≤ a.2.2.2.2.1) then
   optC ([] ++ e.2.2.2.1)[Int.toNat a.2.2.2.2.1]? (none) fun d20 ↦
   optC ([] ++ e.2.2.2.1)[Int.toNat a.2.2.2.2.1]? (none) fun d21 ↦
   some ((e.1, ([] ++ e.2.1).set (Int.toNat a.2.2.1) d12, e.2.2.1, ([] ++ e.2.2.2.1).set (Int.toNat a.2.2.2.2.1) d19, e.2.2.2.2.1, e.2.2.2.2.2), (false, [], [], [], 0, 0), [], [(t, true, a.2.2.2.2.1, e.2.2.2.2.1, d11.1, d11.2)], [(t, n, true, a.2.2.2.2.1, a.1 == 8, e.2.2.2.2.1)])
 else none
 else none
 else none
 else none
 else none
 else none
 else none
 else optC (G_itv_Meet (d9, (0, Go.IntKind.i64.wrap (d8 - 1)), ())) (none) fun d11 ↦
   bif decide (d11.1 > d11.2) then
   some ((false, [], [], [], 0, 0), (false, [], [], [], 0, 0), [], [], [(t, n, true, a.2.2.2.2.1, a.1 == 8, e.2.2.2.2.1)])
 else bif decide (((List.length (α := I) []) + List.length e.2.1 + 1) * 16 ≤ lim) then
   bif decide (0 ≤ a.2.2.1) then
   optC ([] ++ e.2.1)[Int.toNat a.2.2.1]? (none) fun d12 ↦
   optC ([] ++ e.2.1)[Int.toNat a.2.2.1]? (none) fun d13 ↦
   bif !a.1 == 8 then
   optC (G_flow_Read (u, t, (e.1, ([] ++ e.2.1).set (Int.toNat a.2.2.1) d11, e.2.2), l, true, a.2.2.2.2.1, ())) (none) fun d14 ↦
   bif decide (((List.length (α := I) []) + (([] ++ e.2.1).set (Int.toNat a.2.2.1) d11).length + 1) * 16 ≤ lim) then
   bif decide (0 ≤ a.2.1) then
   optC ([] ++ ([] ++ e.2.1).set (Int.toNat a.2.2.1) d11)[Int.toNat a.2.1]? (none) fun d15 ↦
   optC ([] ++ ([] ++ e.2.1).set (Int.toNat a.2.2.1) d11)[Int.toNat a.2.1]? (none) fun d16 ↦
   some ((e.1, ([] ++ ([] ++ e.2.1).set (Int.toNat a.2.2.1) d11).set (Int.toNat a.2.1) d14, e.2.2.1, e.2.2.2.1, e.2.2.2.2.1, e.2.2.2.2.2), (false, [], [], [], 0, 0), [], [], [(t, n, true, a.2.2.2.2.1, a.1 == 8, e.2.2.2.2.1)])
 else none
 else none
 else bif decide (((List.length (α := I) []) + List.length e.2.2.2.1 + 1) * 16 ≤ lim) then
   bif decide (0 ≤ a.2.2.2.2.1) then
   optC ([] ++ e.2.2.2.1)[Int.toNat a.2.2.2.2.1]? (none) fun d14 ↦
   optC ([] ++ e.2.2.2.1)[Int.toNat a.2.2.2.2.1]? (none) fun d15 ↦
   bif decide (0 ≤ a.2.2.2.1) then
   optC (([] ++ e.2.1).set (Int.toNat a.2.2.1) d11)[Int.toNat a.2.2.2.1]? (none) fun d16 ↦
   optC (([] ++ e.2.1).set (Int.toNat a.2.2.1) d11)[Int.toNat a.2.2.2.1]? (none) fun d17 ↦
   optC (G_itv_Join ([d15, d17], ())) (none) fun d18 ↦
   bif decide (0 ≤ a.2.2.2.2.1) then
   optC ([] ++ e.2.2.2.1)[Int.toNat a.2.2.2.2.1]? (none) fun d19 ↦
   optC ([] ++ e.2.2.2.1)[Int.toNat a.2.2.2.2.1]? (none) fun d20 ↦
   some ((e.1, ([] ++ e.2.1).set (Int.toNat a.2.2.1) d11, e.2.2.1, ([] ++ e.2.2.2.1).set (Int.toNat a.2.2.2.2.1) d18, e.2.2.2.2.1, e.2.2.2.2.2), (false, [], [], [], 0, 0), [], [], [(t, n, true, a.2.2.2.2.1, a.1 == 8, e.2.2.2.2.1)])
 else none
 else none
 else none
 else none
 else none
 else none
 else none
 else none
 else bif a.1 == 8 then
   bif decide (0 ≤ a.2.2.2.2.1) then
   optC u.2.1[Int.toNat a.2.2.2.2.1]? (none) fun d8 ↦
   bif decide (0 ≤ a.2.2.1) then
   optC e.2.1[Int.toNat a.2.2.1]? (none) fun d9 ↦
   optC (G_itv_Leq (d9, (0, Go.IntKind.i64.wrap (d8 - 1)), ())) (none) fun d10 ↦
   bif !d10 then
   bif a.1 == 8 then
   bif decide (0 ≤ a.2.2.2.1) then
   optC e.2.1[Int.toNat a.2.2.2.1]? (none) fun d11 ↦
   optC (G_itv_Meet (d9, (0, Go.IntKind.i64.wrap (d8 - 1)), ())) (none) fun d12 ↦
   bif decide (d12.1 > d12.2) then
   some ((false, [], [], [], 0, 0), (false, [], [], [], 0, 0), [9], [(t, true, a.2.2.2.2.1, e.2.2.2.2.1, d11.1, d11.2)], [(t, n, true, a.2.2.2.2.1, a.1 == 8, e.2.2.2.2.1)])
 else bif decide (((List.length (α := I) []) + List.length e.2.1 + 1) * 16 ≤ lim) then
   bif decide (0 ≤ a.2.2.1) then
   optC ([] ++ e.2.1)[Int.toNat a.2.2.1]? (none) fun d13 ↦
   optC ([] ++ e.2.1)[Int.toNat a.2.2.1]? (none) fun d14 ↦
   bif !a.1 == 8 then
   optC (G_flow_Read (u, t, (e.1, ([] ++ e.2.1).set (Int.toNat a.2.2.1) d12, e.2.2), l, true, a.2.2.2.2.1, ())) (none) fun d15 ↦
   bif decide (((List.length (α := I) []) + (([] ++ e.2.1).set (Int.toNat a.2.2.1) d12).length + 1) * 16 ≤ lim) then
   bif decide (0 ≤ a.2.1) then
   optC ([] ++ ([] ++ e.2.1).set (Int.toNat a.2.2.1) d12)[Int.toNat a.2.1]? (none) fun d16 ↦
   optC ([] ++ ([] ++ e.2.1).set (Int.toNat a.2.2.1) d12)[Int.toNat a.2.1]? (none) fun d17 ↦
   some ((e.1, ([] ++ ([] ++ e.2.1).set (Int.toNat a.2.2.1) d12).set (Int.toNat a.2.1) d15, e.2.2.1, e.2.2.2.1, e.2.2.2.2.1, e.2.2.2.2.2), (false, [], [], [], 0, 0), [9], [(t, true, a.2.2.2.2.1, e.2.2.2.2.1, d11.1, d11.2)], [(t, n, true, a.2.2.2.2.1, a.1 == 8, e.2.2.2.2.1)])
 else none
 else none
 else bif decide (((List.length (α := I) []) + List.length e.2.2.2.1 + 1) * 16 ≤ lim) then
   bif decide (0 ≤ a.2.2.2.2.1) then
   optC ([] ++ e.2.2.2.1)[Int.toNat a.2.2.2.2.1]? (none) fun d15 ↦
   optC ([] ++ e.2.2.2.1)[Int.toNat a.2.2.2.2.1]? (none) fun d16 ↦
   bif decide (0 ≤ a.2.2.2.1) then
   optC (([] ++ e.2.1).set (Int.toNat a.2.2.1) d12)[Int.toNat a.2.2.2.1]? (none) fun d17 ↦
   optC (([] ++ e.2.1).set (Int.toNat a.2.2.1) d12)[Int.toNat a.2.2.2.1]? (none) fun d18 ↦
   optC (G_itv_Join ([d16, d18], ())) (none) fun d19 ↦
   bif decide (0 ≤ a.2.2.2.2.1) then
   optC ([] ++ e.2.2.2.1)[Int.toNat a.2.2.2.2.1]? (none) fun d20 ↦
   optC ([] ++ e.2.2.2.1)[Int.toNat a.2.2.2.2.1]? (none) fun d21 ↦
   some ((e.1, ([] ++ e.2.1).set (Int.toNat a.2.2.1) d12, e.2.2.1, ([] ++ e.2.2.2.1).set (Int.toNat a.2.2.2.2.1) d19, e.2.2.2.2.1, e.2.2.2.2.2), (false, [], [], [], 0, 0), [9], [(t, true, a.2.2.2.2.1, e.2.2.2.2.1, d11.1, d11.2)], [(t, n, true, a.2.2.2.2.1, a.1 == 8, e.2.2.2.2.1)])
 else none
 else none
 else none
 else none
 else none
 else none
 else none
 else optC (G_itv_Meet (d9, (0, Go.IntKind.i64.wrap (d8 - 1)), ())) (none) fun d11 ↦
   bif decide (d11.1 > d11.2) then
   some ((false, [], [], [], 0, 0), (false, [], [], [], 0, 0), [9], [], [(t, n, true, a.2.2.2.2.1, a.1 == 8, e.2.2.2.2.1)])
 else bif decide (((List.length (α := I) []) + List.length e.2.1 + 1) * 16 ≤ lim) then
   bif decide (0 ≤ a.2.2.1) then
   optC ([] ++ e.2.1)[Int.toNat a.2.2.1]? (none) fun d12 ↦
   optC ([] ++ e.2.1)[Int.toNat a.2.2.1]? (none) fun d13 ↦
   bif !a.1 == 8 then
   optC (G_flow_Read (u, t, (e.1, ([] ++ e.2.1).set (Int.toNat a.2.2.1) d11, e.2.2), l, true, a.2.2.2.2.1, ())) (none) fun d14 ↦
   bif decide (((List.length (α := I) []) + (([] ++ e.2.1).set (Int.toNat a.2.2.1) d11).length + 1) * 16 ≤ lim) then
   bif decide (0 ≤ a.2.1) then
   optC ([] ++ ([] ++ e.2.1).set (Int.toNat a.2.2.1) d11)[Int.toNat a.2.1]? (none) fun d15 ↦
   optC ([] ++ ([] ++ e.2.1).set (Int.toNat a.2.2.1) d11)[Int.toNat a.2.1]? (none) fun d16 ↦
   some ((e.1, ([] ++ ([] ++ e.2.1).set (Int.toNat a.2.2.1) d11).set (Int.toNat a.2.1) d14, e.2.2.1, e.2.2.2.1, e.2.2.2.2.1, e.2.2.2.2.2), (false, [], [], [], 0, 0), [9], [], [(t, n, true, a.2.2.2.2.1, a.1 == 8, e.2.2.2.2.1)])
 else none
 else none
 else bif decide (((List.length (α := I) []) + List.length e.2.2.2.1 + 1) * 16 ≤ lim) then
   bif decide (0 ≤ a.2.2.2.2.1) then
   optC ([] ++ e.2.2.2.1)[Int.toNat a.2.2.2.2.1]? (none) fun d14 ↦
   optC ([] ++ e.2.2.2.1)[Int.toNat a.2.2.2.2.1]? (none) fun d15 ↦
   bif decide (0 ≤ a.2.2.2.1) then
   optC (([] ++ e.2.1).set (Int.toNat a.2.2.1) d11)[Int.toNat a.2.2.2.1]? (none) fun d16 ↦
   optC (([] ++ e.2.1).set (Int.toNat a.2.2.1) d11)[Int.toNat a.2.2.2.1]? (none) fun d17 ↦
   optC (G_itv_Join ([d15, d17], ())) (none) fun d18 ↦
   bif decide (0 ≤ a.2.2.2.2.1) then
   optC ([] ++ e.2.2.2.1)[Int.toNat a.2.2.2.2.1]? (none) fun d19 ↦
   optC ([] ++ e.2.2.2.1)[Int.toNat a.2.2.2.2.1]? (none) fun d20 ↦
   some ((e.1, ([] ++ e.2.1).set (Int.toNat a.2.2.1) d11, e.2.2.1, ([] ++ e.2.2.2.1).set (Int.toNat a.2.2.2.2.1) d18, e.2.2.2.2.1, e.2.2.2.2.2), (false, [], [], [], 0, 0), [9], [], [(t, n, true, a.2.2.2.2.1, a.1 == 8, e.2.2.2.2.1)])
 else none
 else none
 else none
 else none
 else none
 else none
 else bif a.1 == 8 then
   bif decide (0 ≤ a.2.2.2.1) then
   optC e.2.1[Int.toNat a.2.2.2.1]? (none) fun d11 ↦
   optC (G_itv_Meet (d9, (0, Go.IntKind.i64.wrap (d8 - 1)), ())) (none) fun d12 ↦
   bif decide (d12.1 > d12.2) then
   some ((false, [], [], [], 0, 0), (false, [], [], [], 0, 0), [], [(t, true, a.2.2.2.2.1, e.2.2.2.2.1, d11.1, d11.2)], [(t, n, true, a.2.2.2.2.1, a.1 == 8, e.2.2.2.2.1)])
 else bif decide (((List.length (α := I) []) + List.length e.2.1 + 1) * 16 ≤ lim) then
   bif decide (0 ≤ a.2.2.1) then
   optC ([] ++ e.2.1)[Int.toNat a.2.2.1]? (none) fun d13 ↦
   optC ([] ++ e.2.1)[Int.toNat a.2.2.1]? (none) fun d14 ↦
   bif !a.1 == 8 then
   optC (G_flow_Read (u, t, (e.1, ([] ++ e.2.1).set (Int.toNat a.2.2.1) d12, e.2.2), l, true, a.2.2.2.2.1, ())) (none) fun d15 ↦
   bif decide (((List.length (α := I) []) + (([] ++ e.2.1).set (Int.toNat a.2.2.1) d12).length + 1) * 16 ≤ lim) then
   bif decide (0 ≤ a.2.1) then
   optC ([] ++ ([] ++ e.2.1).set (Int.toNat a.2.2.1) d12)[Int.toNat a.2.1]? (none) fun d16 ↦
   optC ([] ++ ([] ++ e.2.1).set (Int.toNat a.2.2.1) d12)[Int.toNat a.2.1]? (none) fun d17 ↦
   some ((e.1, ([] ++ ([] ++ e.2.1).set (Int.toNat a.2.2.1) d12).set (Int.toNat a.2.1) d15, e.2.2.1, e.2.2.2.1, e.2.2.2.2.1, e.2.2.2.2.2), (false, [], [], [], 0, 0), [], [(t, true, a.2.2.2.2.1, e.2.2.2.2.1, d11.1, d11.2)], [(t, n, true, a.2.2.2.2.1, a.1 == 8, e.2.2.2.2.1)])
 else none
 else none
 else bif decide (((List.length (α := I) []) + List.length e.2.2.2.1 + 1) * 16 ≤ lim) then
   bif decide (0 ≤ a.2.2.2.2.1) then
   optC ([] ++ e.2.2.2.1)[Int.toNat a.2.2.2.2.1]? (none) fun d15 ↦
   optC ([] ++ e.2.2.2.1)[Int.toNat a.2.2.2.2.1]? (none) fun d16 ↦
   bif decide (0 ≤ a.2.2.2.1) then
   optC (([] ++ e.2.1).set (Int.toNat a.2.2.1) d12)[Int.toNat a.2.2.2.1]? (none) fun d17 ↦
   optC (([] ++ e.2.1).set (Int.toNat a.2.2.1) d12)[Int.toNat a.2.2.2.1]? (none) fun d18 ↦
   optC (G_itv_Join ([d16, d18], ())) (none) fun d19 ↦
   bif decide (0 ≤ a.2.2.2.2.1) then
   optC ([] ++ e.2.2.2.1)[Int.toNat a.2.2.2.2.1]? (none) fun d20 ↦
   optC ([] ++ e.2.2.2.1)[Int.toNat a.2.2.2.2.1]? (none) fun d21 ↦
   some ((e.1, ([] ++ e.2.1).set (Int.toNat a.2.2.1) d12, e.2.2.1, ([] ++ e.2.2.2.1).set (Int.toNat a.2.2.2.2.1) d19, e.2.2.2.2.1, e.2.2.2.2.2), (false, [], [], [], 0, 0), [], [(t, true, a.2.2.2.2.1, e.2.2.2.2.1, d11.1, d11.2)], [(t, n, true, a.2.2.2.2.1, a.1 == 8, e.2.2.2.2.1)])
 else none
 else none
 else none
 else none
 else none
 else none
 else none
 else optC (G_itv_Meet (d9, (0, Go.IntKind.i64.wrap (d8 - 1)), ())) (none) fun d11 ↦
   bif decide (d11.1 > d11.2) then
   some ((false, [], [], [], 0, 0), (false, [], [], [], 0, 0), [], [], [(t, n, true, a.2.2.2.2.1, a.1 == 8, e.2.2.2.2.1)])
 else bif decide (((List.length (α := I) []) + List.length e.2.1 + 1) * 16 ≤ lim) then
   bif decide (0 ≤ a.2.2.1) then
   optC ([] ++ e.2.1)[Int.toNat a.2.2.1]? (none) fun d12 ↦
   optC ([] ++ e.2.1)[Int.toNat a.2.2.1]? (none) fun d13 ↦
   bif !a.1 == 8 then
   optC (G_flow_Read (u, t, (e.1, ([] ++ e.2.1).set (Int.toNat a.2.2.1) d11, e.2.2), l, true, a.2.2.2.2.1, ())) (none) fun d14 ↦
   bif decide (((List.length (α := I) []) + (([] ++ e.2.1).set (Int.toNat a.2.2.1) d11).length + 1) * 16 ≤ lim) then
   bif decide (0 ≤ a.2.1) then
   optC ([] ++ ([] ++ e.2.1).set (Int.toNat a.2.2.1) d11)[Int.toNat a.2.1]? (none) fun d15 ↦
   optC ([] ++ ([] ++ e.2.1).set (Int.toNat a.2.2.1) d11)[Int.toNat a.2.1]? (none) fun d16 ↦
   some ((e.1, ([] ++ ([] ++ e.2.1).set (Int.toNat a.2.2.1) d11).set (Int.toNat a.2.1) d14, e.2.2.1, e.2.2.2.1, e.2.2.2.2.1, e.2.2.2.2.2), (false, [], [], [], 0, 0), [], [], [(t, n, true, a.2.2.2.2.1, a.1 == 8, e.2.2.2.2.1)])
 else none
 else none
 else bif decide (((List.length (α := I) []) + List.length e.2.2.2.1 + 1) * 16 ≤ lim) then
   bif decide (0 ≤ a.2.2.2.2.1) then
   optC ([] ++ e.2.2.2.1)[Int.toNat a.2.2.2.2.1]? (none) fun d14 ↦
   optC ([] ++ e.2.2.2.1)[Int.toNat a.2.2.2.2.1]? (none) fun d15 ↦
   bif decide (0 ≤ a.2.2.2.1) then
   optC (([] ++ e.2.1).set (Int.toNat a.2.2.1) d11)[Int.toNat a.2.2.2.1]? (none) fun d16 ↦
   optC (([] ++ e.2.1).set (Int.toNat a.2.2.1) d11)[Int.toNat a.2.2.2.1]? (none) fun d17 ↦
   optC (G_itv_Join ([d15, d17], ())) (none) fun d18 ↦
   bif decide (0 ≤ a.2.2.2.2.1) then
   optC ([] ++ e.2.2.2.1)[Int.toNat a.2.2.2.2.1]? (none) fun d19 ↦
   optC ([] ++ e.2.2.2.1)[Int.toNat a.2.2.2.2.1]? (none) fun d20 ↦
   some ((e.1, ([] ++ e.2.1).set (Int.toNat a.2.2.1) d11, e.2.2.1, ([] ++ e.2.2.2.1).set (Int.toNat a.2.2.2.2.1) d18, e.2.2.2.2.1, e.2.2.2.2.2), (false, [], [], [], 0, 0), [], [], [(t, n, true, a.2.2.2.2.1, a.1 == 8, e.2.2.2.2.1)])
 else none
 else none
 else none
 else none
 else none
 else none
 else none
 else none
 else bif a.1 == 9 then
   optC (G_held_Has (e.2.2.2.2.2, a.2.2.2.2.1, ())) (none) fun d8 ↦
   bif d8 then
   optC (G_held_Has (e.2.2.2.2.1, a.2.2.2.2.1, ())) (none) fun d9 ↦
   bif d9 then
   some ((false, [], [], [], 0, 0), (false, [], [], [], 0, 0), [11], [], [])
 else optC (G_flow_deed_gains ((a.1, a.2.1, a.2.2.1, a.2.2.2.1, a.2.2.2.2.1, a.2.2.2.2.2.1, a.2.2.2.2.2.2.1, a.2.2.2.2.2.2.2.1, a.2.2.2.2.2.2.2.2, u.1, u.2.1, u.2.2.1, u.2.2.2, t, n, e.1, e.2.1, e.2.2.1, e.2.2.2.1, e.2.2.2.2.1, e.2.2.2.2.2, l, false, [], [], [], 0, 0, false, [], [], [], 0, 0, [11], [], [], ()), e.2.2.1, false, ())) (none) fun d10 ↦
   optC (G_flow_deed_gains ((a.1, a.2.1, a.2.2.1, a.2.2.2.1, a.2.2.2.2.1, a.2.2.2.2.2.1, a.2.2.2.2.2.2.1, a.2.2.2.2.2.2.2.1, a.2.2.2.2.2.2.2.2, u.1, u.2.1, u.2.2.1, u.2.2.2, t, n, e.1, e.2.1, e.2.2.1, e.2.2.2.1, e.2.2.2.2.1, e.2.2.2.2.2, l, false, [], [], [], 0, 0, false, [], [], [], 0, 0, [11], [], [], ()), e.2.2.2.1, true, ())) (none) fun d11 ↦
   optC (G_held_With (e.2.2.2.2.1, [a.2.2.2.2.1], ())) (none) fun d12 ↦
   optC (G_held_With (e.2.2.2.2.2, [a.2.2.2.2.1], ())) (none) fun d13 ↦
   some ((e.1, e.2.1, d10, d11, d12, d13), (false, [], [], [], 0, 0), [11], [], [])
 else optC (G_held_Has (e.2.2.2.2.1, a.2.2.2.2.1, ())) (none) fun d9 ↦
   bif d9 then
   some ((false, [], [], [], 0, 0), (false, [], [], [], 0, 0), [], [], [])
 else optC (G_flow_deed_gains ((a.1, a.2.1, a.2.2.1, a.2.2.2.1, a.2.2.2.2.1, a.2.2.2.2.2.1, a.2.2.2.2.2.2.1, a.2.2.2.2.2.2.2.1, a.2.2.2.2.2.2.2.2, u.1, u.2.1, u.2.2.1, u.2.2.2, t, n, e.1, e.2.1, e.2.2.1, e.2.2.2.1, e.2.2.2.2.1, e.2.2.2.2.2, l, false, [], [], [], 0, 0, false, [], [], [], 0, 0, [], [], [], ()), e.2.2.1, false, ())) (none) fun d10 ↦
   optC (G_flow_deed_gains ((a.1, a.2.1, a.2.2.1, a.2.2.2.1, a.2.2.2.2.1, a.2.2.2.2.2.1, a.2.2.2.2.2.2.1, a.2.2.2.2.2.2.2.1, a.2.2.2.2.2.2.2.2, u.1, u.2.1, u.2.2.1, u.2.2.2, t, n, e.1, e.2.1, e.2.2.1, e.2.2.2.1, e.2.2.2.2.1, e.2.2.2.2.2, l, false, [], [], [], 0, 0, false, [], [], [], 0, 0, [], [], [], ()), e.2.2.2.1, true, ())) (none) fun d11 ↦
   optC (G_held_With (e.2.2.2.2.1, [a.2.2.2.2.1], ())) (none) fun d12 ↦
   optC (G_held_With (e.2.2.2.2.2, [a.2.2.2.2.1], ())) (none) fun d13 ↦
   some ((e.1, e.2.1, d10, d11, d12, d13), (false, [], [], [], 0, 0), [], [], [])
 else bif a.1 == 10 then
   optC (G_held_Has (e.2.2.2.2.1, a.2.2.2.2.1, ())) (none) fun d8 ↦
   bif !d8 then
   optC (G_held_Has (e.2.2.2.2.2, a.2.2.2.2.1, ())) (none) fun d9 ↦
   bif !d9 then
   some ((false, [], [], [], 0, 0), (false, [], [], [], 0, 0), [12], [], [])
 else optC (G_held_Without (e.2.2.2.2.1, [a.2.2.2.2.1], ())) (none) fun d10 ↦
   optC (G_held_Without (e.2.2.2.2.2, [a.2.2.2.2.1], ())) (none) fun d11 ↦
   some ((e.1, e.2.1, e.2.2.1, e.2.2.2.1, d10, d11), (false, [], [], [], 0, 0), [12], [], [])
 else optC (G_held_Has (e.2.2.2.2.2, a.2.2.2.2.1, ())) (none) fun d9 ↦
   bif !d9 then
   some ((false, [], [], [], 0, 0), (false, [], [], [], 0, 0), [], [], [])
 else optC (G_held_Without (e.2.2.2.2.1, [a.2.2.2.2.1], ())) (none) fun d10 ↦
   optC (G_held_Without (e.2.2.2.2.2, [a.2.2.2.2.1], ())) (none) fun d11 ↦
   some ((e.1, e.2.1, e.2.2.1, e.2.2.2.1, d10, d11), (false, [], [], [], 0, 0), [], [], [])
 else bif a.1 == 11 then
   bif decide (0 ≤ a.2.2.1) then
   optC e.2.1[Int.toNat a.2.2.1]? (none) fun d8 ↦
   bif decide (0 ≤ a.2.2.2.1) then
   optC e.2.1[Int.toNat a.2.2.2.1]? (none) fun d9 ↦
   optC (G_itv_Refine (a.2.2.2.2.2.2.1, d8, d9, ())) (none) fun d10 ↦
   bif a.2.2.1 == a.2.2.2.1 then
   optC (G_itv_Meet (d10.1, d10.2.1, ())) (none) fun d11 ↦
   bif decide (d11.1 > d11.2) then
   optC (G_num_Not (a.2.2.2.2.2.2.1, ())) (none) fun d12 ↦
   bif decide (0 ≤ a.2.2.1) then
   optC e.2.1[Int.toNat a.2.2.1]? (none) fun d13 ↦
   bif decide (0 ≤ a.2.2.2.1) then
   optC e.2.1[Int.toNat a.2.2.2.1]? (none) fun d14 ↦
   optC (G_itv_Refine (d12, d13, d14, ())) (none) fun d15 ↦
   bif a.2.2.1 == a.2.2.2.1 then
   optC (G_itv_Meet (d15.1, d15.2.1, ())) (none) fun d16 ↦
   bif decide (d16.1 > d16.2) then
   some ((false, [], [], [], 0, 0), (false, [], [], [], 0, 0), [], [], [])
 else bif decide (d16.1 > d16.2) then
   some ((false, [], [], [], 0, 0), (false, [], [], [], 0, 0), [], [], [])
 else bif decide (((List.length (α := I) []) + List.length e.2.1 + 1) * 16 ≤ lim) then
   bif decide (0 ≤ a.2.2.1) then
   optC ([] ++ e.2.1)[Int.toNat a.2.2.1]? (none) fun d17 ↦
   optC ([] ++ e.2.1)[Int.toNat a.2.2.1]? (none) fun d18 ↦
   bif decide (0 ≤ a.2.2.2.1) then
   optC (([] ++ e.2.1).set (Int.toNat a.2.2.1) d16)[Int.toNat a.2.2.2.1]? (none) fun d19 ↦
   optC (([] ++ e.2.1).set (Int.toNat a.2.2.1) d16)[Int.toNat a.2.2.2.1]? (none) fun d20 ↦
   some ((false, [], [], [], 0, 0), (e.1, (([] ++ e.2.1).set (Int.toNat a.2.2.1) d16).set (Int.toNat a.2.2.2.1) d16, e.2.2.1, e.2.2.2.1, e.2.2.2.2.1, e.2.2.2.2.2), [], [], [])
 else none
 else none
 else none
 else bif decide (d15.1.1 > d15.1.2) then
   some ((false, [], [], [], 0, 0), (false, [], [], [], 0, 0), [], [], [])
 else bif decide (d15.2.1.1 > d15.2.1.2) then
   some ((false, [], [], [], 0, 0), (false, [], [], [], 0, 0), [], [], [])
 else bif decide (((List.length (α := I) []) + List.length e.2.1 + 1) * 16 ≤ lim) then
   bif decide (0 ≤ a.2.2.1) then
   optC ([] ++ e.2.1)[Int.toNat a.2.2.1]? (none) fun d16 ↦
   optC ([] ++ e.2.1)[Int.toNat a.2.2.1]? (none) fun d17 ↦
   bif decide (0 ≤ a.2.2.2.1) then
   optC (([] ++ e.2.1).set (Int.toNat a.2.2.1) d15.1)[Int.toNat a.2.2.2.1]? (none) fun d18 ↦
   optC (([] ++ e.2.1).set (Int.toNat a.2.2.1) d15.1)[Int.toNat a.2.2.2.1]? (none) fun d19 ↦
   some ((false, [], [], [], 0, 0), (e.1, (([] ++ e.2.1).set (Int.toNat a.2.2.1) d15.1).set (Int.toNat a.2.2.2.1) d15.2.1, e.2.2.1, e.2.2.2.1, e.2.2.2.2.1, e.2.2.2.2.2), [], [], [])
 else none
 else none
 else none
 else none
 else none
 else bif decide (d11.1 > d11.2) then
   optC (G_num_Not (a.2.2.2.2.2.2.1, ())) (none) fun d12 ↦
   bif decide (0 ≤ a.2.2.1) then
   optC e.2.1[Int.toNat a.2.2.1]? (none) fun d13 ↦
   bif decide (0 ≤ a.2.2.2.1) then
   optC e.2.1[Int.toNat a.2.2.2.1]? (none) fun d14 ↦
   optC (G_itv_Refine (d12, d13, d14, ())) (none) fun d15 ↦
   bif a.2.2.1 == a.2.2.2.1 then
   optC (G_itv_Meet (d15.1, d15.2.1, ())) (none) fun d16 ↦
   bif decide (d16.1 > d16.2) then
   some ((false, [], [], [], 0, 0), (false, [], [], [], 0, 0), [], [], [])
 else bif decide (d16.1 > d16.2) then
   some ((false, [], [], [], 0, 0), (false, [], [], [], 0, 0), [], [], [])
 else bif decide (((List.length (α := I) []) + List.length e.2.1 + 1) * 16 ≤ lim) then
   bif decide (0 ≤ a.2.2.1) then
   optC ([] ++ e.2.1)[Int.toNat a.2.2.1]? (none) fun d17 ↦
   optC ([] ++ e.2.1)[Int.toNat a.2.2.1]? (none) fun d18 ↦
   bif decide (0 ≤ a.2.2.2.1) then
   optC (([] ++ e.2.1).set (Int.toNat a.2.2.1) d16)[Int.toNat a.2.2.2.1]? (none) fun d19 ↦
   optC (([] ++ e.2.1).set (Int.toNat a.2.2.1) d16)[Int.toNat a.2.2.2.1]? (none) fun d20 ↦
   some ((false, [], [], [], 0, 0), (e.1, (([] ++ e.2.1).set (Int.toNat a.2.2.1) d16).set (Int.toNat a.2.2.2.1) d16, e.2.2.1, e.2.2.2.1, e.2.2.2.2.1, e.2.2.2.2.2), [], [], [])
 else none
 else none
 else none
 else bif decide (d15.1.1 > d15.1.2) then
   some ((false, [], [], [], 0, 0), (false, [], [], [], 0, 0), [], [], [])
 else bif decide (d15.2.1.1 > d15.2.1.2) then
   some ((false, [], [], [], 0, 0), (false, [], [], [], 0, 0), [], [], [])
 else bif decide (((List.length (α := I) []) + List.length e.2.1 + 1) * 16 ≤ lim) then
   bif decide (0 ≤ a.2.2.1) then
   optC ([] ++ e.2.1)[Int.toNat a.2.2.1]? (none) fun d16 ↦
   optC ([] ++ e.2.1)[Int.toNat a.2.2.1]? (none) fun d17 ↦
   bif decide (0 ≤ a.2.2.2.1) then
   optC (([] ++ e.2.1).set (Int.toNat a.2.2.1) d15.1)[Int.toNat a.2.2.2.1]? (none) fun d18 ↦
   optC (([] ++ e.2.1).set (Int.toNat a.2.2.1) d15.1)[Int.toNat a.2.2.2.1]? (none) fun d19 ↦
   some ((false, [], [], [], 0, 0), (e.1, (([] ++ e.2.1).set (Int.toNat a.2.2.1) d15.1).set (Int.toNat a.2.2.2.1) d15.2.1, e.2.2.1, e.2.2.2.1, e.2.2.2.2.1, e.2.2.2.2.2), [], [], [])
 else none
 else none
 else none
 else none
 else none
 else bif decide (((List.length (α := I) []) + List.length e.2.1 + 1) * 16 ≤ lim) then
   bif decide (0 ≤ a.2.2.1) then
   optC ([] ++ e.2.1)[Int.toNat a.2.2.1]? (none) fun d12 ↦
   optC ([] ++ e.2.1)[Int.toNat a.2.2.1]? (none) fun d13 ↦
   bif decide (0 ≤ a.2.2.2.1) then
   optC (([] ++ e.2.1).set (Int.toNat a.2.2.1) d11)[Int.toNat a.2.2.2.1]? (none) fun d14 ↦
   optC (([] ++ e.2.1).set (Int.toNat a.2.2.1) d11)[Int.toNat a.2.2.2.1]? (none) fun d15 ↦
   optC (G_num_Not (a.2.2.2.2.2.2.1, ())) (none) fun d16 ↦
   bif decide (0 ≤ a.2.2.1) then
   optC e.2.1[Int.toNat a.2.2.1]? (none) fun d17 ↦
   bif decide (0 ≤ a.2.2.2.1) then
   optC e.2.1[Int.toNat a.2.2.2.1]? (none) fun d18 ↦
   optC (G_itv_Refine (d16, d17, d18, ())) (none) fun d19 ↦
   bif a.2.2.1 == a.2.2.2.1 then
   optC (G_itv_Meet (d19.1, d19.2.1, ())) (none) fun d20 ↦
   bif decide (d20.1 > d20.2) then
   some ((e.1, (([] ++ e.2.1).set (Int.toNat a.2.2.1) d11).set (Int.toNat a.2.2.2.1) d11, e.2.2.1, e.2.2.2.1, e.2.2.2.2.1, e.2.2.2.2.2), (false, [], [], [], 0, 0), [], [], [])
 else bif decide (d20.1 > d20.2) then
   some ((e.1, (([] ++ e.2.1).set (Int.toNat a.2.2.1) d11).set (Int.toNat a.2.2.2.1) d11, e.2.2.1, e.2.2.2.1, e.2.2.2.2.1, e.2.2.2.2.2), (false, [], [], [], 0, 0), [], [], [])
 else bif decide (((List.length (α := I) []) + List.length e.2.1 + 1) * 16 ≤ lim) then
   bif decide (0 ≤ a.2.2.1) then
   optC ([] ++ e.2.1)[Int.toNat a.2.2.1]? (none) fun d21 ↦
   optC ([] ++ e.2.1)[Int.toNat a.2.2.1]? (none) fun d22 ↦
   bif decide (0 ≤ a.2.2.2.1) then
   optC (([] ++ e.2.1).set (Int.toNat a.2.2.1) d20)[Int.toNat a.2.2.2.1]? (none) fun d23 ↦
   optC (([] ++ e.2.1).set (Int.toNat a.2.2.1) d20)[Int.toNat a.2.2.2.1]? (none) fun d24 ↦
   some ((e.1, (([] ++ e.2.1).set (Int.toNat a.2.2.1) d11).set (Int.toNat a.2.2.2.1) d11, e.2.2.1, e.2.2.2.1, e.2.2.2.2.1, e.2.2.2.2.2), (e.1, (([] ++ e.2.1).set (Int.toNat a.2.2.1) d20).set (Int.toNat a.2.2.2.1) d20, e.2.2.1, e.2.2.2.1, e.2.2.2.2.1, e.2.2.2.2.2), [], [], [])
 else none
 else none
 else none
 else bif decide (d19.1.1 > d19.1.2) then
   some ((e.1, (([] ++ e.2.1).set (Int.toNat a.2.2.1) d11).set (Int.toNat a.2.2.2.1) d11, e.2.2.1, e.2.2.2.1, e.2.2.2.2.1, e.2.2.2.2.2), (false, [], [], [], 0, 0), [], [], [])
 else bif decide (d19.2.1.1 > d19.2.1.2) then
   some ((e.1, (([] ++ e.2.1).set (Int.toNat a.2.2.1) d11).set (Int.toNat a.2.2.2.1) d11, e.2.2.1, e.2.2.2.1, e.2.2.2.2.1, e.2.2.2.2.2), (false, [], [], [], 0, 0), [], [], [])
 else bif decide (((List.length (α := I) []) + List.length e.2.1 + 1) * 16 ≤ lim) then
   bif decide (0 ≤ a.2.2.1) then
   optC ([] ++ e.2.1)[Int.toNat a.2.2.1]? (none) fun d20 ↦
   optC ([] ++ e.2.1)[Int.toNat a.2.2.1]? (none) fun d21 ↦
   bif decide (0 ≤ a.2.2.2.1) then
   optC (([] ++ e.2.1).set (Int.toNat a.2.2.1) d19.1)[Int.toNat a.2.2.2.1]? (none) fun d22 ↦
   optC (([] ++ e.2.1).set (Int.toNat a.2.2.1) d19.1)[Int.toNat a.2.2.2.1]? (none) fun d23 ↦
   some ((e.1, (([] ++ e.2.1).set (Int.toNat a.2.2.1) d11).set (Int.toNat a.2.2.2.1) d11, e.2.2.1, e.2.2.2.1, e.2.2.2.2.1, e.2.2.2.2.2), (e.1, (([] ++ e.2.1).set (Int.toNat a.2.2.1) d19.1).set (Int.toNat a.2.2.2.1) d19.2.1, e.2.2.1, e.2.2.2.1, e.2.2.2.2.1, e.2.2.2.2.2), [], [], [])
 else none
 else none
 else none
 else none
 else none
 else none
 else none
 else none
 else bif decide (d10.1.1 > d10.1.2) then
   optC (G_num_Not (a.2.2.2.2.2.2.1, ())) (none) fun d11 ↦
   bif decide (0 ≤ a.2.2.1) then
   optC e.2.1[Int.toNat a.2.2.1]? (none) fun d12 ↦
   bif decide (0 ≤ a.2.2.2.1) then
   optC e.2.1[Int.toNat a.2.2.2.1]? (none) fun d13 ↦
   optC (G_itv_Refine (d11, d12, d13, ())) (none) fun d14 ↦
   bif a.2.2.1 == a.2.2.2.1 then
   optC (G_itv_Meet (d14.1, d14.2.1, ())) (none) fun d15 ↦
   bif decide (d15.1 > d15.2) then
   some ((false, [], [], [], 0, 0), (false, [], [], [], 0, 0), [], [], [])
 else bif decide (d15.1 > d15.2) then
   some ((false, [], [], [], 0, 0), (false, [], [], [], 0, 0), [], [], [])
 else bif decide (((List.length (α := I) []) + List.length e.2.1 + 1) * 16 ≤ lim) then
   bif decide (0 ≤ a.2.2.1) then
   optC ([] ++ e.2.1)[Int.toNat a.2.2.1]? (none) fun d16 ↦
   optC ([] ++ e.2.1)[Int.toNat a.2.2.1]? (none) fun d17 ↦
   bif decide (0 ≤ a.2.2.2.1) then
   optC (([] ++ e.2.1).set (Int.toNat a.2.2.1) d15)[Int.toNat a.2.2.2.1]? (none) fun d18 ↦
   optC (([] ++ e.2.1).set (Int.toNat a.2.2.1) d15)[Int.toNat a.2.2.2.1]? (none) fun d19 ↦
   some ((false, [], [], [], 0, 0), (e.1, (([] ++ e.2.1).set (Int.toNat a.2.2.1) d15).set (Int.toNat a.2.2.2.1) d15, e.2.2.1, e.2.2.2.1, e.2.2.2.2.1, e.2.2.2.2.2), [], [], [])
 else none
 else none
 else none
 else bif decide (d14.1.1 > d14.1.2) then
   some ((false, [], [], [], 0, 0), (false, [], [], [], 0, 0), [], [], [])
 else bif decide (d14.2.1.1 > d14.2.1.2) then
   some ((false, [], [], [], 0, 0), (false, [], [], [], 0, 0), [], [], [])
 else bif decide (((List.length (α := I) []) + List.length e.2.1 + 1) * 16 ≤ lim) then
   bif decide (0 ≤ a.2.2.1) then
   optC ([] ++ e.2.1)[Int.toNat a.2.2.1]? (none) fun d15 ↦
   optC ([] ++ e.2.1)[Int.toNat a.2.2.1]? (none) fun d16 ↦
   bif decide (0 ≤ a.2.2.2.1) then
   optC (([] ++ e.2.1).set (Int.toNat a.2.2.1) d14.1)[Int.toNat a.2.2.2.1]? (none) fun d17 ↦
   optC (([] ++ e.2.1).set (Int.toNat a.2.2.1) d14.1)[Int.toNat a.2.2.2.1]? (none) fun d18 ↦
   some ((false, [], [], [], 0, 0), (e.1, (([] ++ e.2.1).set (Int.toNat a.2.2.1) d14.1).set (Int.toNat a.2.2.2.1) d14.2.1, e.2.2.1, e.2.2.2.1, e.2.2.2.2.1, e.2.2.2.2.2), [], [], [])
 else none
 else none
 else none
 else none
 else none
 else bif decide (d10.2.1.1 > d10.2.1.2) then
   optC (G_num_Not (a.2.2.2.2.2.2.1, ())) (none) fun d11 ↦
   bif decide (0 ≤ a.2.2.1) then
   optC e.2.1[Int.toNat a.2.2.1]? (none) fun d12 ↦
   bif decide (0 ≤ a.2.2.2.1) then
   optC e.2.1[Int.toNat a.2.2.2.1]? (none) fun d13 ↦
   optC (G_itv_Refine (d11, d12, d13, ())) (none) fun d14 ↦
   bif a.2.2.1 == a.2.2.2.1 then
   optC (G_itv_Meet (d14.1, d14.2.1, ())) (none) fun d15 ↦
   bif decide (d15.1 > d15.2) then
   some ((false, [], [], [], 0, 0), (false, [], [], [], 0, 0), [], [], [])
 else bif decide (d15.1 > d15.2) then
   some ((false, [], [], [], 0, 0), (false, [], [], [], 0, 0), [], [], [])
 else bif decide (((List.length (α := I) []) + List.length e.2.1 + 1) * 16 ≤ lim) then
   bif decide (0 ≤ a.2.2.1) then
   optC ([] ++ e.2.1)[Int.toNat a.2.2.1]? (none) fun d16 ↦
   optC ([] ++ e.2.1)[Int.toNat a.2.2.1]? (none) fun d17 ↦
   bif decide (0 ≤ a.2.2.2.1) then
   optC (([] ++ e.2.1).set (Int.toNat a.2.2.1) d15)[Int.toNat a.2.2.2.1]? (none) fun d18 ↦
   optC (([] ++ e.2.1).set (Int.toNat a.2.2.1) d15)[Int.toNat a.2.2.2.1]? (none) fun d19 ↦
   some ((false, [], [], [], 0, 0), (e.1, (([] ++ e.2.1).set (Int.toNat a.2.2.1) d15).set (Int.toNat a.2.2.2.1) d15, e.2.2.1, e.2.2.2.1, e.2.2.2.2.1, e.2.2.2.2.2), [], [], [])
 else none
 else none
 else none
 else bif decide (d14.1.1 > d14.1.2) then
   some ((false, [], [], [], 0, 0), (false, [], [], [], 0, 0), [], [], [])
 else bif decide (d14.2.1.1 > d14.2.1.2) then
   some ((false, [], [], [], 0, 0), (false, [], [], [], 0, 0), [], [], [])
 else bif decide (((List.length (α := I) []) + List.length e.2.1 + 1) * 16 ≤ lim) then
   bif decide (0 ≤ a.2.2.1) then
   optC ([] ++ e.2.1)[Int.toNat a.2.2.1]? (none) fun d15 ↦
   optC ([] ++ e.2.1)[Int.toNat a.2.2.1]? (none) fun d16 ↦
   bif decide (0 ≤ a.2.2.2.1) then
   optC (([] ++ e.2.1).set (Int.toNat a.2.2.1) d14.1)[Int.toNat a.2.2.2.1]? (none) fun d17 ↦
   optC (([] ++ e.2.1).set (Int.toNat a.2.2.1) d14.1)[Int.toNat a.2.2.2.1]? (none) fun d18 ↦
   some ((false, [], [], [], 0, 0), (e.1, (([] ++ e.2.1).set (Int.toNat a.2.2.1) d14.1).set (Int.toNat a.2.2.2.1) d14.2.1, e.2.2.1, e.2.2.2.1, e.2.2.2.2.1, e.2.2.2.2.2), [], [], [])
 else none
 else none
 else none
 else none
 else none
 else bif decide (((List.length (α := I) []) + List.length e.2.1 + 1) * 16 ≤ lim) then
   bif decide (0 ≤ a.2.2.1) then
   optC ([] ++ e.2.1)[Int.toNat a.2.2.1]? (none) fun d11 ↦
   optC ([] ++ e.2.1)[Int.toNat a.2.2.1]? (none) fun d12 ↦
   bif decide (0 ≤ a.2.2.2.1) then
   optC (([] ++ e.2.1).set (Int.toNat a.2.2.1) d10.1)[Int.toNat a.2.2.2.1]? (none) fun d13 ↦
   optC (([] ++ e.2.1).set (Int.toNat a.2.2.1) d10.1)[Int.toNat a.2.2.2.1]? (none) fun d14 ↦
   optC (G_num_Not (a.2.2.2.2.2.2.1, ())) (none) fun d15 ↦
   bif decide (0 ≤ a.2.2.1) then
   optC e.2.1[Int.toNat a.2.2.1]? (none) fun d16 ↦
   bif decide (0 ≤ a.2.2.2.1) then
   optC e.2.1[Int.toNat a.2.2.2.1]? (none) fun d17 ↦
   optC (G_itv_Refine (d15, d16, d17, ())) (none) fun d18 ↦
   bif a.2.2.1 == a.2.2.2.1 then
   optC (G_itv_Meet (d18.1, d18.2.1, ())) (none) fun d19 ↦
   bif decide (d19.1 > d19.2) then
   some ((e.1, (([] ++ e.2.1).set (Int.toNat a.2.2.1) d10.1).set (Int.toNat a.2.2.2.1) d10.2.1, e.2.2.1, e.2.2.2.1, e.2.2.2.2.1, e.2.2.2.2.2), (false, [], [], [], 0, 0), [], [], [])
 else bif decide (d19.1 > d19.2) then
   some ((e.1, (([] ++ e.2.1).set (Int.toNat a.2.2.1) d10.1).set (Int.toNat a.2.2.2.1) d10.2.1, e.2.2.1, e.2.2.2.1, e.2.2.2.2.1, e.2.2.2.2.2), (false, [], [], [], 0, 0), [], [], [])
 else bif decide (((List.length (α := I) []) + List.length e.2.1 + 1) * 16 ≤ lim) then
   bif decide (0 ≤ a.2.2.1) then
   optC ([] ++ e.2.1)[Int.toNat a.2.2.1]? (none) fun d20 ↦
   optC ([] ++ e.2.1)[Int.toNat a.2.2.1]? (none) fun d21 ↦
   bif decide (0 ≤ a.2.2.2.1) then
   optC (([] ++ e.2.1).set (Int.toNat a.2.2.1) d19)[Int.toNat a.2.2.2.1]? (none) fun d22 ↦
   optC (([] ++ e.2.1).set (Int.toNat a.2.2.1) d19)[Int.toNat a.2.2.2.1]? (none) fun d23 ↦
   some ((e.1, (([] ++ e.2.1).set (Int.toNat a.2.2.1) d10.1).set (Int.toNat a.2.2.2.1) d10.2.1, e.2.2.1, e.2.2.2.1, e.2.2.2.2.1, e.2.2.2.2.2), (e.1, (([] ++ e.2.1).set (Int.toNat a.2.2.1) d19).set (Int.toNat a.2.2.2.1) d19, e.2.2.1, e.2.2.2.1, e.2.2.2.2.1, e.2.2.2.2.2), [], [], [])
 else none
 else none
 else none
 else bif decide (d18.1.1 > d18.1.2) then
   some ((e.1, (([] ++ e.2.1).set (Int.toNat a.2.2.1) d10.1).set (Int.toNat a.2.2.2.1) d10.2.1, e.2.2.1, e.2.2.2.1, e.2.2.2.2.1, e.2.2.2.2.2), (false, [], [], [], 0, 0), [], [], [])
 else bif decide (d18.2.1.1 > d18.2.1.2) then
   some ((e.1, (([] ++ e.2.1).set (Int.toNat a.2.2.1) d10.1).set (Int.toNat a.2.2.2.1) d10.2.1, e.2.2.1, e.2.2.2.1, e.2.2.2.2.1, e.2.2.2.2.2), (false, [], [], [], 0, 0), [], [], [])
 else bif decide (((List.length (α := I) []) + List.length e.2.1 + 1) * 16 ≤ lim) then
   bif decide (0 ≤ a.2.2.1) then
   optC ([] ++ e.2.1)[Int.toNat a.2.2.1]? (none) fun d19 ↦
   optC ([] ++ e.2.1)[Int.toNat a.2.2.1]? (none) fun d20 ↦
   bif decide (0 ≤ a.2.2.2.1) then
   optC (([] ++ e.2.1).set (Int.toNat a.2.2.1) d18.1)[Int.toNat a.2.2.2.1]? (none) fun d21 ↦
   optC (([] ++ e.2.1).set (Int.toNat a.2.2.1) d18.1)[Int.toNat a.2.2.2.1]? (none) fun d22 ↦
   some ((e.1, (([] ++ e.2.1).set (Int.toNat a.2.2.1) d10.1).set (Int.toNat a.2.2.2.1) d10.2.1, e.2.2.1, e.2.2.2.1, e.2.2.2.2.1, e.2.2.2.2.2), (e.1, (([] ++ e.2.1).set (Int.toNat a.2.2.1) d18.1).set (Int.toNat a.2.2.2.1) d18.2.1, e.2.2.1, e.2.2.2.1, e.2.2.2.2.1, e.2.2.2.2.2), [], [], [])
 else none
 else none
 else none
 else none
 else none
 else none
 else none
 else none
 else none
 else none
 else bif a.1 == 12 then
   some ((e.1, e.2.1, e.2.2.1, e.2.2.2.1, e.2.2.2.2.1, e.2.2.2.2.2), (false, [], [], [], 0, 0), [], [], [])
 else bif a.1 == 13 then
   some ((false, [], [], [], 0, 0), (false, [], [], [], 0, 0), [10], [], [])
 else some ((false, [], [], [], 0, 0), (false, [], [], [], 0, 0), [], [], [])
theorem bF_at (u : U) (t n : Int) (e : E) (l : List En) (c : C) (a : A) (h0 : 0 ≤ t) (hc : u.2.2.2[t.toNat]? = some c) (h1 : 0 ≤ n) (ha : c.2[n.toNat]? = some a) (he : e.1 = true) : g_flow_Do u t n e l = bF u t n e l c a := by
  have e0 : decide (0 ≤ t) = true := decide_eq_true h0
  have e1 : decide (0 ≤ n) = true := decide_eq_true h1
  have e2 : (!e.1) = false := by rw [he]; rfl
  unfold g_flow_Do
  rw [e0, hc, e1, cond_true, optC_some, cond_true, ha, optC_some]
  show (bif e.1 then _ else _) = _
  
  exact (congrArg (fun b => bif b then bF u t n e l c a else _) he)
theorem F_1 (u : U) (t n : Int) (e : E) (l : List En) (c : C) (T X Y G N op nx el : Int) : bF u t n e l c (1, T, X, Y, G, N, op, nx, el) =
  optC (G_itv_Of ([N], ())) (none) fun d8 ↦
   bif decide (((List.length (α := I) []) + List.length e.2.1 + 1) * 16 ≤ lim) then
   bif decide (0 ≤ T) then
   optC ([] ++ e.2.1)[Int.toNat T]? (none) fun d9 ↦
   optC ([] ++ e.2.1)[Int.toNat T]? (none) fun d10 ↦
   some ((e.1, ([] ++ e.2.1).set (Int.toNat T) d8, e.2.2.1, e.2.2.2.1, e.2.2.2.2.1, e.2.2.2.2.2), (false, [], [], [], 0, 0), [], [], [])
 else none
 else none := by kernel_rfl
theorem F_2 (u : U) (t n : Int) (e : E) (l : List En) (c : C) (T X Y G N op nx el : Int) : bF u t n e l c (2, T, X, Y, G, N, op, nx, el) =
  bif decide (0 ≤ X) then
   optC e.2.1[Int.toNat X]? (none) fun d8 ↦
   bif decide (((List.length (α := I) []) + List.length e.2.1 + 1) * 16 ≤ lim) then
   bif decide (0 ≤ T) then
   optC ([] ++ e.2.1)[Int.toNat T]? (none) fun d9 ↦
   optC ([] ++ e.2.1)[Int.toNat T]? (none) fun d10 ↦
   some ((e.1, ([] ++ e.2.1).set (Int.toNat T) d8, e.2.2.1, e.2.2.2.1, e.2.2.2.2.1, e.2.2.2.2.2), (false, [], [], [], 0, 0), [], [], [])
 else none
 else none
 else none := by kernel_rfl
theorem F_3 (u : U) (t n : Int) (e : E) (l : List En) (c : C) (T X Y G N op nx el : Int) : bF u t n e l c (3, T, X, Y, G, N, op, nx, el) =
  bif decide (((List.length (α := I) []) + List.length e.2.1 + 1) * 16 ≤ lim) then
   bif decide (0 ≤ T) then
   optC ([] ++ e.2.1)[Int.toNat T]? (none) fun d8 ↦
   optC ([] ++ e.2.1)[Int.toNat T]? (none) fun d9 ↦
   some ((e.1, ([] ++ e.2.1).set (Int.toNat T) (-2147483648, 2147483647), e.2.2.1, e.2.2.2.1, e.2.2.2.2.1, e.2.2.2.2.2), (false, [], [], [], 0, 0), [], [], [])
 else none
 else none := by kernel_rfl
theorem F_4 (u : U) (t n : Int) (e : E) (l : List En) (c : C) (T X Y G N op nx el : Int) : bF u t n e l c (4, T, X, Y, G, N, op, nx, el) =
  bif decide (0 ≤ X) then
   optC e.2.1[Int.toNat X]? (none) fun d8 ↦
   bif decide (0 ≤ Y) then
   optC e.2.1[Int.toNat Y]? (none) fun d9 ↦
   optC (G_itv_Do (op, d8, d9, ())) (none) fun d10 ↦
   bif d10.2.1 then
   bif d10.2.2.1 then
   bif !decide (d10.1.1 > d10.1.2) then
   bif decide (((List.length (α := I) []) + List.length e.2.1 + 1) * 16 ≤ lim) then
   bif decide (0 ≤ T) then
   optC ([] ++ e.2.1)[Int.toNat T]? (none) fun d11 ↦
   optC ([] ++ e.2.1)[Int.toNat T]? (none) fun d12 ↦
   some ((e.1, ([] ++ e.2.1).set (Int.toNat T) d10.1, e.2.2.1, e.2.2.2.1, e.2.2.2.2.1, e.2.2.2.2.2), (false, [], [], [], 0, 0), [7, 8], [], [])
 else none
 else none
 else some ((false, [], [], [], 0, 0), (false, [], [], [], 0, 0), [7, 8], [], [])
 else bif !decide (d10.1.1 > d10.1.2) then
   bif decide (((List.length (α := I) []) + List.length e.2.1 + 1) * 16 ≤ lim) then
   bif decide (0 ≤ T) then
   optC ([] ++ e.2.1)[Int.toNat T]? (none) fun d11 ↦
   optC ([] ++ e.2.1)[Int.toNat T]? (none) fun d12 ↦
   some ((e.1, ([] ++ e.2.1).set (Int.toNat T) d10.1, e.2.2.1, e.2.2.2.1, e.2.2.2.2.1, e.2.2.2.2.2), (false, [], [], [], 0, 0), [7], [], [])
 else none
 else none
 else some ((false, [], [], [], 0, 0), (false, [], [], [], 0, 0), [7], [], [])
 else bif d10.2.2.1 then
   bif !decide (d10.1.1 > d10.1.2) then
   bif decide (((List.length (α := I) []) + List.length e.2.1 + 1) * 16 ≤ lim) then
   bif decide (0 ≤ T) then
   optC ([] ++ e.2.1)[Int.toNat T]? (none) fun d11 ↦
   optC ([] ++ e.2.1)[Int.toNat T]? (none) fun d12 ↦
   some ((e.1, ([] ++ e.2.1).set (Int.toNat T) d10.1, e.2.2.1, e.2.2.2.1, e.2.2.2.2.1, e.2.2.2.2.2), (false, [], [], [], 0, 0), [8], [], [])
 else none
 else none
 else some ((false, [], [], [], 0, 0), (false, [], [], [], 0, 0), [8], [], [])
 else bif !decide (d10.1.1 > d10.1.2) then
   bif decide (((List.length (α := I) []) + List.length e.2.1 + 1) * 16 ≤ lim) then
   bif decide (0 ≤ T) then
   optC ([] ++ e.2.1)[Int.toNat T]? (none) fun d11 ↦
   optC ([] ++ e.2.1)[Int.toNat T]? (none) fun d12 ↦
   some ((e.1, ([] ++ e.2.1).set (Int.toNat T) d10.1, e.2.2.1, e.2.2.2.1, e.2.2.2.2.1, e.2.2.2.2.2), (false, [], [], [], 0, 0), [], [], [])
 else none
 else none
 else some ((false, [], [], [], 0, 0), (false, [], [], [], 0, 0), [], [], [])
 else none
 else none := by kernel_rfl
theorem F_5 (u : U) (t n : Int) (e : E) (l : List En) (c : C) (T X Y G N op nx el : Int) : bF u t n e l c (5, T, X, Y, G, N, op, nx, el) =
  optC (G_flow_Read (u, t, e, l, false, G, ())) (none) fun d8 ↦
   bif decide (((List.length (α := I) []) + List.length e.2.1 + 1) * 16 ≤ lim) then
   bif decide (0 ≤ T) then
   optC ([] ++ e.2.1)[Int.toNat T]? (none) fun d9 ↦
   optC ([] ++ e.2.1)[Int.toNat T]? (none) fun d10 ↦
   some ((e.1, ([] ++ e.2.1).set (Int.toNat T) d8, e.2.2.1, e.2.2.2.1, e.2.2.2.2.1, e.2.2.2.2.2), (false, [], [], [], 0, 0), [], [], [(t, n, false, G, false, e.2.2.2.2.1)])
 else none
 else none := by kernel_rfl
theorem F_6 (u : U) (t n : Int) (e : E) (l : List En) (c : C) (T X Y G N op nx el : Int) : bF u t n e l c (6, T, X, Y, G, N, op, nx, el) =
  bif decide (0 ≤ X) then
   optC e.2.1[Int.toNat X]? (none) fun d8 ↦
   bif decide (((List.length (α := I) []) + List.length e.2.2.1 + 1) * 16 ≤ lim) then
   bif decide (0 ≤ G) then
   optC ([] ++ e.2.2.1)[Int.toNat G]? (none) fun d9 ↦
   optC ([] ++ e.2.2.1)[Int.toNat G]? (none) fun d10 ↦
   some ((e.1, e.2.1, ([] ++ e.2.2.1).set (Int.toNat G) d8, e.2.2.2.1, e.2.2.2.2.1, e.2.2.2.2.2), (false, [], [], [], 0, 0), [], [(t, false, G, e.2.2.2.2.1, d8.1, d8.2)], [(t, n, false, G, true, e.2.2.2.2.1)])
 else none
 else none
 else none := by kernel_rfl
theorem F_7 (u : U) (t n : Int) (e : E) (l : List En) (c : C) (T X Y G N op nx el : Int) : bF u t n e l c (7, T, X, Y, G, N, op, nx, el) =
  bif decide (0 ≤ G) then
   optC u.2.1[Int.toNat G]? (none) fun d8 ↦
   bif decide (0 ≤ X) then
   optC e.2.1[Int.toNat X]? (none) fun d9 ↦
   optC (G_itv_Leq (d9, (0, Go.IntKind.i64.wrap (d8 - 1)), ())) (none) fun d10 ↦
   bif !d10 then
   optC (G_itv_Meet (d9, (0, Go.IntKind.i64.wrap (d8 - 1)), ())) (none) fun d11 ↦
   bif decide (d11.1 > d11.2) then
   some ((false, [], [], [], 0, 0), (false, [], [], [], 0, 0), [9], [], [(t, n, true, G, 7 == 8, e.2.2.2.2.1)])
 else bif decide (((List.length (α := I) []) + List.length e.2.1 + 1) * 16 ≤ lim) then
   bif decide (0 ≤ X) then
   optC ([] ++ e.2.1)[Int.toNat X]? (none) fun d12 ↦
   optC ([] ++ e.2.1)[Int.toNat X]? (none) fun d13 ↦
   optC (G_flow_Read (u, t, (e.1, ([] ++ e.2.1).set (Int.toNat X) d11, e.2.2), l, true, G, ())) (none) fun d14 ↦
   bif decide (((List.length (α := I) []) + (([] ++ e.2.1).set (Int.toNat X) d11).length + 1) * 16 ≤ lim) then
   bif decide (0 ≤ T) then
   optC ([] ++ ([] ++ e.2.1).set (Int.toNat X) d11)[Int.toNat T]? (none) fun d15 ↦
   optC ([] ++ ([] ++ e.2.1).set (Int.toNat X) d11)[Int.toNat T]? (none) fun d16 ↦
   some ((e.1, ([] ++ ([] ++ e.2.1).set (Int.toNat X) d11).set (Int.toNat T) d14, e.2.2.1, e.2.2.2.1, e.2.2.2.2.1, e.2.2.2.2.2), (false, [], [], [], 0, 0), [9], [], [(t, n, true, G, 7 == 8, e.2.2.2.2.1)])
 else none
 else none
 else none
 else none
 else optC (G_itv_Meet (d9, (0, Go.IntKind.i64.wrap (d8 - 1)), ())) (none) fun d11 ↦
   bif decide (d11.1 > d11.2) then
   some ((false, [], [], [], 0, 0), (false, [], [], [], 0, 0), [], [], [(t, n, true, G, 7 == 8, e.2.2.2.2.1)])
 else bif decide (((List.length (α := I) []) + List.length e.2.1 + 1) * 16 ≤ lim) then
   bif decide (0 ≤ X) then
   optC ([] ++ e.2.1)[Int.toNat X]? (none) fun d12 ↦
   optC ([] ++ e.2.1)[Int.toNat X]? (none) fun d13 ↦
   optC (G_flow_Read (u, t, (e.1, ([] ++ e.2.1).set (Int.toNat X) d11, e.2.2), l, true, G, ())) (none) fun d14 ↦
   bif decide (((List.length (α := I) []) + (([] ++ e.2.1).set (Int.toNat X) d11).length + 1) * 16 ≤ lim) then
   bif decide (0 ≤ T) then
   optC ([] ++ ([] ++ e.2.1).set (Int.toNat X) d11)[Int.toNat T]? (none) fun d15 ↦
   optC ([] ++ ([] ++ e.2.1).set (Int.toNat X) d11)[Int.toNat T]? (none) fun d16 ↦
   some ((e.1, ([] ++ ([] ++ e.2.1).set (Int.toNat X) d11).set (Int.toNat T) d14, e.2.2.1, e.2.2.2.1, e.2.2.2.2.1, e.2.2.2.2.2), (false, [], [], [], 0, 0), [], [], [(t, n, true, G, 7 == 8, e.2.2.2.2.1)])
 else none
 else none
 else none
 else none
 else none
 else none := by kernel_rfl
theorem F_8 (u : U) (t n : Int) (e : E) (l : List En) (c : C) (T X Y G N op nx el : Int) : bF u t n e l c (8, T, X, Y, G, N, op, nx, el) =
  bif decide (0 ≤ G) then
   optC u.2.1[Int.toNat G]? (none) fun d8 ↦
   bif decide (0 ≤ X) then
   optC e.2.1[Int.toNat X]? (none) fun d9 ↦
   optC (G_itv_Leq (d9, (0, Go.IntKind.i64.wrap (d8 - 1)), ())) (none) fun d10 ↦
   bif !d10 then
   bif decide (0 ≤ Y) then
   optC e.2.1[Int.toNat Y]? (none) fun d11 ↦
   optC (G_itv_Meet (d9, (0, Go.IntKind.i64.wrap (d8 - 1)), ())) (none) fun d12 ↦
   bif decide (d12.1 > d12.2) then
   some ((false, [], [], [], 0, 0), (false, [], [], [], 0, 0), [9], [(t, true, G, e.2.2.2.2.1, d11.1, d11.2)], [(t, n, true, G, 8 == 8, e.2.2.2.2.1)])
 else bif decide (((List.length (α := I) []) + List.length e.2.1 + 1) * 16 ≤ lim) then
   bif decide (0 ≤ X) then
   optC ([] ++ e.2.1)[Int.toNat X]? (none) fun d13 ↦
   optC ([] ++ e.2.1)[Int.toNat X]? (none) fun d14 ↦
   bif decide (((List.length (α := I) []) + List.length e.2.2.2.1 + 1) * 16 ≤ lim) then
   bif decide (0 ≤ G) then
   optC ([] ++ e.2.2.2.1)[Int.toNat G]? (none) fun d15 ↦
   optC ([] ++ e.2.2.2.1)[Int.toNat G]? (none) fun d16 ↦
   bif decide (0 ≤ Y) then
   optC (([] ++ e.2.1).set (Int.toNat X) d12)[Int.toNat Y]? (none) fun d17 ↦
   optC (([] ++ e.2.1).set (Int.toNat X) d12)[Int.toNat Y]? (none) fun d18 ↦
   optC (G_itv_Join ([d16, d18], ())) (none) fun d19 ↦
   bif decide (0 ≤ G) then
   optC ([] ++ e.2.2.2.1)[Int.toNat G]? (none) fun d20 ↦
   optC ([] ++ e.2.2.2.1)[Int.toNat G]? (none) fun d21 ↦
   some ((e.1, ([] ++ e.2.1).set (Int.toNat X) d12, e.2.2.1, ([] ++ e.2.2.2.1).set (Int.toNat G) d19, e.2.2.2.2.1, e.2.2.2.2.2), (false, [], [], [], 0, 0), [9], [(t, true, G, e.2.2.2.2.1, d11.1, d11.2)], [(t, n, true, G, 8 == 8, e.2.2.2.2.1)])
 else none
 else none
 else none
 else none
 else none
 else none
 else none
 else bif decide (0 ≤ Y) then
   optC e.2.1[Int.toNat Y]? (none) fun d11 ↦
   optC (G_itv_Meet (d9, (0, Go.IntKind.i64.wrap (d8 - 1)), ())) (none) fun d12 ↦
   bif decide (d12.1 > d12.2) then
   some ((false, [], [], [], 0, 0), (false, [], [], [], 0, 0), [], [(t, true, G, e.2.2.2.2.1, d11.1, d11.2)], [(t, n, true, G, 8 == 8, e.2.2.2.2.1)])
 else bif decide (((List.length (α := I) []) + List.length e.2.1 + 1) * 16 ≤ lim) then
   bif decide (0 ≤ X) then
   optC ([] ++ e.2.1)[Int.toNat X]? (none) fun d13 ↦
   optC ([] ++ e.2.1)[Int.toNat X]? (none) fun d14 ↦
   bif decide (((List.length (α := I) []) + List.length e.2.2.2.1 + 1) * 16 ≤ lim) then
   bif decide (0 ≤ G) then
   optC ([] ++ e.2.2.2.1)[Int.toNat G]? (none) fun d15 ↦
   optC ([] ++ e.2.2.2.1)[Int.toNat G]? (none) fun d16 ↦
   bif decide (0 ≤ Y) then
   optC (([] ++ e.2.1).set (Int.toNat X) d12)[Int.toNat Y]? (none) fun d17 ↦
   optC (([] ++ e.2.1).set (Int.toNat X) d12)[Int.toNat Y]? (none) fun d18 ↦
   optC (G_itv_Join ([d16, d18], ())) (none) fun d19 ↦
   bif decide (0 ≤ G) then
   optC ([] ++ e.2.2.2.1)[Int.toNat G]? (none) fun d20 ↦
   optC ([] ++ e.2.2.2.1)[Int.toNat G]? (none) fun d21 ↦
   some ((e.1, ([] ++ e.2.1).set (Int.toNat X) d12, e.2.2.1, ([] ++ e.2.2.2.1).set (Int.toNat G) d19, e.2.2.2.2.1, e.2.2.2.2.2), (false, [], [], [], 0, 0), [], [(t, true, G, e.2.2.2.2.1, d11.1, d11.2)], [(t, n, true, G, 8 == 8, e.2.2.2.2.1)])
 else none
 else none
 else none
 else none
 else none
 else none
 else none
 else none
 else none := by kernel_rfl
theorem F_9 (u : U) (t n : Int) (e : E) (l : List En) (c : C) (T X Y G N op nx el : Int) : bF u t n e l c (9, T, X, Y, G, N, op, nx, el) =
  optC (G_held_Has (e.2.2.2.2.2, G, ())) (none) fun d8 ↦
   bif d8 then
   optC (G_held_Has (e.2.2.2.2.1, G, ())) (none) fun d9 ↦
   bif d9 then
   some ((false, [], [], [], 0, 0), (false, [], [], [], 0, 0), [11], [], [])
 else optC (G_flow_deed_gains ((9, T, X, Y, G, N, op, nx, el, u.1, u.2.1, u.2.2.1, u.2.2.2, t, n, e.1, e.2.1, e.2.2.1, e.2.2.2.1, e.2.2.2.2.1, e.2.2.2.2.2, l, false, [], [], [], 0, 0, false, [], [], [], 0, 0, [11], [], [], ()), e.2.2.1, false, ())) (none) fun d10 ↦
   optC (G_flow_deed_gains ((9, T, X, Y, G, N, op, nx, el, u.1, u.2.1, u.2.2.1, u.2.2.2, t, n, e.1, e.2.1, e.2.2.1, e.2.2.2.1, e.2.2.2.2.1, e.2.2.2.2.2, l, false, [], [], [], 0, 0, false, [], [], [], 0, 0, [11], [], [], ()), e.2.2.2.1, true, ())) (none) fun d11 ↦
   optC (G_held_With (e.2.2.2.2.1, [G], ())) (none) fun d12 ↦
   optC (G_held_With (e.2.2.2.2.2, [G], ())) (none) fun d13 ↦
   some ((e.1, e.2.1, d10, d11, d12, d13), (false, [], [], [], 0, 0), [11], [], [])
 else optC (G_held_Has (e.2.2.2.2.1, G, ())) (none) fun d9 ↦
   bif d9 then
   some ((false, [], [], [], 0, 0), (false, [], [], [], 0, 0), [], [], [])
 else optC (G_flow_deed_gains ((9, T, X, Y, G, N, op, nx, el, u.1, u.2.1, u.2.2.1, u.2.2.2, t, n, e.1, e.2.1, e.2.2.1, e.2.2.2.1, e.2.2.2.2.1, e.2.2.2.2.2, l, false, [], [], [], 0, 0, false, [], [], [], 0, 0, [], [], [], ()), e.2.2.1, false, ())) (none) fun d10 ↦
   optC (G_flow_deed_gains ((9, T, X, Y, G, N, op, nx, el, u.1, u.2.1, u.2.2.1, u.2.2.2, t, n, e.1, e.2.1, e.2.2.1, e.2.2.2.1, e.2.2.2.2.1, e.2.2.2.2.2, l, false, [], [], [], 0, 0, false, [], [], [], 0, 0, [], [], [], ()), e.2.2.2.1, true, ())) (none) fun d11 ↦
   optC (G_held_With (e.2.2.2.2.1, [G], ())) (none) fun d12 ↦
   optC (G_held_With (e.2.2.2.2.2, [G], ())) (none) fun d13 ↦
   some ((e.1, e.2.1, d10, d11, d12, d13), (false, [], [], [], 0, 0), [], [], []) := by kernel_rfl
theorem F_10 (u : U) (t n : Int) (e : E) (l : List En) (c : C) (T X Y G N op nx el : Int) : bF u t n e l c (10, T, X, Y, G, N, op, nx, el) =
  optC (G_held_Has (e.2.2.2.2.1, G, ())) (none) fun d8 ↦
   bif !d8 then
   optC (G_held_Has (e.2.2.2.2.2, G, ())) (none) fun d9 ↦
   bif !d9 then
   some ((false, [], [], [], 0, 0), (false, [], [], [], 0, 0), [12], [], [])
 else optC (G_held_Without (e.2.2.2.2.1, [G], ())) (none) fun d10 ↦
   optC (G_held_Without (e.2.2.2.2.2, [G], ())) (none) fun d11 ↦
   some ((e.1, e.2.1, e.2.2.1, e.2.2.2.1, d10, d11), (false, [], [], [], 0, 0), [12], [], [])
 else optC (G_held_Has (e.2.2.2.2.2, G, ())) (none) fun d9 ↦
   bif !d9 then
   some ((false, [], [], [], 0, 0), (false, [], [], [], 0, 0), [], [], [])
 else optC (G_held_Without (e.2.2.2.2.1, [G], ())) (none) fun d10 ↦
   optC (G_held_Without (e.2.2.2.2.2, [G], ())) (none) fun d11 ↦
   some ((e.1, e.2.1, e.2.2.1, e.2.2.2.1, d10, d11), (false, [], [], [], 0, 0), [], [], []) := by kernel_rfl
theorem F_11 (u : U) (t n : Int) (e : E) (l : List En) (c : C) (T X Y G N op nx el : Int) : bF u t n e l c (11, T, X, Y, G, N, op, nx, el) =
  bif decide (0 ≤ X) then
   optC e.2.1[Int.toNat X]? (none) fun d8 ↦
   bif decide (0 ≤ Y) then
   optC e.2.1[Int.toNat Y]? (none) fun d9 ↦
   optC (G_itv_Refine (op, d8, d9, ())) (none) fun d10 ↦
   bif X == Y then
   optC (G_itv_Meet (d10.1, d10.2.1, ())) (none) fun d11 ↦
   bif decide (d11.1 > d11.2) then
   optC (G_num_Not (op, ())) (none) fun d12 ↦
   bif decide (0 ≤ X) then
   optC e.2.1[Int.toNat X]? (none) fun d13 ↦
   bif decide (0 ≤ Y) then
   optC e.2.1[Int.toNat Y]? (none) fun d14 ↦
   optC (G_itv_Refine (d12, d13, d14, ())) (none) fun d15 ↦
   bif X == Y then
   optC (G_itv_Meet (d15.1, d15.2.1, ())) (none) fun d16 ↦
   bif decide (d16.1 > d16.2) then
   some ((false, [], [], [], 0, 0), (false, [], [], [], 0, 0), [], [], [])
 else bif decide (d16.1 > d16.2) then
   some ((false, [], [], [], 0, 0), (false, [], [], [], 0, 0), [], [], [])
 else bif decide (((List.length (α := I) []) + List.length e.2.1 + 1) * 16 ≤ lim) then
   bif decide (0 ≤ X) then
   optC ([] ++ e.2.1)[Int.toNat X]? (none) fun d17 ↦
   optC ([] ++ e.2.1)[Int.toNat X]? (none) fun d18 ↦
   bif decide (0 ≤ Y) then
   optC (([] ++ e.2.1).set (Int.toNat X) d16)[Int.toNat Y]? (none) fun d19 ↦
   optC (([] ++ e.2.1).set (Int.toNat X) d16)[Int.toNat Y]? (none) fun d20 ↦
   some ((false, [], [], [], 0, 0), (e.1, (([] ++ e.2.1).set (Int.toNat X) d16).set (Int.toNat Y) d16, e.2.2.1, e.2.2.2.1, e.2.2.2.2.1, e.2.2.2.2.2), [], [], [])
 else none
 else none
 else none
 else bif decide (d15.1.1 > d15.1.2) then
   some ((false, [], [], [], 0, 0), (false, [], [], [], 0, 0), [], [], [])
 else bif decide (d15.2.1.1 > d15.2.1.2) then
   some ((false, [], [], [], 0, 0), (false, [], [], [], 0, 0), [], [], [])
 else bif decide (((List.length (α := I) []) + List.length e.2.1 + 1) * 16 ≤ lim) then
   bif decide (0 ≤ X) then
   optC ([] ++ e.2.1)[Int.toNat X]? (none) fun d16 ↦
   optC ([] ++ e.2.1)[Int.toNat X]? (none) fun d17 ↦
   bif decide (0 ≤ Y) then
   optC (([] ++ e.2.1).set (Int.toNat X) d15.1)[Int.toNat Y]? (none) fun d18 ↦
   optC (([] ++ e.2.1).set (Int.toNat X) d15.1)[Int.toNat Y]? (none) fun d19 ↦
   some ((false, [], [], [], 0, 0), (e.1, (([] ++ e.2.1).set (Int.toNat X) d15.1).set (Int.toNat Y) d15.2.1, e.2.2.1, e.2.2.2.1, e.2.2.2.2.1, e.2.2.2.2.2), [], [], [])
 else none
 else none
 else none
 else none
 else none
 else bif decide (d11.1 > d11.2) then
   optC (G_num_Not (op, ())) (none) fun d12 ↦
   bif decide (0 ≤ X) then
   optC e.2.1[Int.toNat X]? (none) fun d13 ↦
   bif decide (0 ≤ Y) then
   optC e.2.1[Int.toNat Y]? (none) fun d14 ↦
   optC (G_itv_Refine (d12, d13, d14, ())) (none) fun d15 ↦
   bif X == Y then
   optC (G_itv_Meet (d15.1, d15.2.1, ())) (none) fun d16 ↦
   bif decide (d16.1 > d16.2) then
   some ((false, [], [], [], 0, 0), (false, [], [], [], 0, 0), [], [], [])
 else bif decide (d16.1 > d16.2) then
   some ((false, [], [], [], 0, 0), (false, [], [], [], 0, 0), [], [], [])
 else bif decide (((List.length (α := I) []) + List.length e.2.1 + 1) * 16 ≤ lim) then
   bif decide (0 ≤ X) then
   optC ([] ++ e.2.1)[Int.toNat X]? (none) fun d17 ↦
   optC ([] ++ e.2.1)[Int.toNat X]? (none) fun d18 ↦
   bif decide (0 ≤ Y) then
   optC (([] ++ e.2.1).set (Int.toNat X) d16)[Int.toNat Y]? (none) fun d19 ↦
   optC (([] ++ e.2.1).set (Int.toNat X) d16)[Int.toNat Y]? (none) fun d20 ↦
   some ((false, [], [], [], 0, 0), (e.1, (([] ++ e.2.1).set (Int.toNat X) d16).set (Int.toNat Y) d16, e.2.2.1, e.2.2.2.1, e.2.2.2.2.1, e.2.2.2.2.2), [], [], [])
 else none
 else none
 else none
 else bif decide (d15.1.1 > d15.1.2) then
   some ((false, [], [], [], 0, 0), (false, [], [], [], 0, 0), [], [], [])
 else bif decide (d15.2.1.1 > d15.2.1.2) then
   some ((false, [], [], [], 0, 0), (false, [], [], [], 0, 0), [], [], [])
 else bif decide (((List.length (α := I) []) + List.length e.2.1 + 1) * 16 ≤ lim) then
   bif decide (0 ≤ X) then
   optC ([] ++ e.2.1)[Int.toNat X]? (none) fun d16 ↦
   optC ([] ++ e.2.1)[Int.toNat X]? (none) fun d17 ↦
   bif decide (0 ≤ Y) then
   optC (([] ++ e.2.1).set (Int.toNat X) d15.1)[Int.toNat Y]? (none) fun d18 ↦
   optC (([] ++ e.2.1).set (Int.toNat X) d15.1)[Int.toNat Y]? (none) fun d19 ↦
   some ((false, [], [], [], 0, 0), (e.1, (([] ++ e.2.1).set (Int.toNat X) d15.1).set (Int.toNat Y) d15.2.1, e.2.2.1, e.2.2.2.1, e.2.2.2.2.1, e.2.2.2.2.2), [], [], [])
 else none
 else none
 else none
 else none
 else none
 else bif decide (((List.length (α := I) []) + List.length e.2.1 + 1) * 16 ≤ lim) then
   bif decide (0 ≤ X) then
   optC ([] ++ e.2.1)[Int.toNat X]? (none) fun d12 ↦
   optC ([] ++ e.2.1)[Int.toNat X]? (none) fun d13 ↦
   bif decide (0 ≤ Y) then
   optC (([] ++ e.2.1).set (Int.toNat X) d11)[Int.toNat Y]? (none) fun d14 ↦
   optC (([] ++ e.2.1).set (Int.toNat X) d11)[Int.toNat Y]? (none) fun d15 ↦
   optC (G_num_Not (op, ())) (none) fun d16 ↦
   bif decide (0 ≤ X) then
   optC e.2.1[Int.toNat X]? (none) fun d17 ↦
   bif decide (0 ≤ Y) then
   optC e.2.1[Int.toNat Y]? (none) fun d18 ↦
   optC (G_itv_Refine (d16, d17, d18, ())) (none) fun d19 ↦
   bif X == Y then
   optC (G_itv_Meet (d19.1, d19.2.1, ())) (none) fun d20 ↦
   bif decide (d20.1 > d20.2) then
   some ((e.1, (([] ++ e.2.1).set (Int.toNat X) d11).set (Int.toNat Y) d11, e.2.2.1, e.2.2.2.1, e.2.2.2.2.1, e.2.2.2.2.2), (false, [], [], [], 0, 0), [], [], [])
 else bif decide (d20.1 > d20.2) then
   some ((e.1, (([] ++ e.2.1).set (Int.toNat X) d11).set (Int.toNat Y) d11, e.2.2.1, e.2.2.2.1, e.2.2.2.2.1, e.2.2.2.2.2), (false, [], [], [], 0, 0), [], [], [])
 else bif decide (((List.length (α := I) []) + List.length e.2.1 + 1) * 16 ≤ lim) then
   bif decide (0 ≤ X) then
   optC ([] ++ e.2.1)[Int.toNat X]? (none) fun d21 ↦
   optC ([] ++ e.2.1)[Int.toNat X]? (none) fun d22 ↦
   bif decide (0 ≤ Y) then
   optC (([] ++ e.2.1).set (Int.toNat X) d20)[Int.toNat Y]? (none) fun d23 ↦
   optC (([] ++ e.2.1).set (Int.toNat X) d20)[Int.toNat Y]? (none) fun d24 ↦
   some ((e.1, (([] ++ e.2.1).set (Int.toNat X) d11).set (Int.toNat Y) d11, e.2.2.1, e.2.2.2.1, e.2.2.2.2.1, e.2.2.2.2.2), (e.1, (([] ++ e.2.1).set (Int.toNat X) d20).set (Int.toNat Y) d20, e.2.2.1, e.2.2.2.1, e.2.2.2.2.1, e.2.2.2.2.2), [], [], [])
 else none
 else none
 else none
 else bif decide (d19.1.1 > d19.1.2) then
   some ((e.1, (([] ++ e.2.1).set (Int.toNat X) d11).set (Int.toNat Y) d11, e.2.2.1, e.2.2.2.1, e.2.2.2.2.1, e.2.2.2.2.2), (false, [], [], [], 0, 0), [], [], [])
 else bif decide (d19.2.1.1 > d19.2.1.2) then
   some ((e.1, (([] ++ e.2.1).set (Int.toNat X) d11).set (Int.toNat Y) d11, e.2.2.1, e.2.2.2.1, e.2.2.2.2.1, e.2.2.2.2.2), (false, [], [], [], 0, 0), [], [], [])
 else bif decide (((List.length (α := I) []) + List.length e.2.1 + 1) * 16 ≤ lim) then
   bif decide (0 ≤ X) then
   optC ([] ++ e.2.1)[Int.toNat X]? (none) fun d20 ↦
   optC ([] ++ e.2.1)[Int.toNat X]? (none) fun d21 ↦
   bif decide (0 ≤ Y) then
   optC (([] ++ e.2.1).set (Int.toNat X) d19.1)[Int.toNat Y]? (none) fun d22 ↦
   optC (([] ++ e.2.1).set (Int.toNat X) d19.1)[Int.toNat Y]? (none) fun d23 ↦
   some ((e.1, (([] ++ e.2.1).set (Int.toNat X) d11).set (Int.toNat Y) d11, e.2.2.1, e.2.2.2.1, e.2.2.2.2.1, e.2.2.2.2.2), (e.1, (([] ++ e.2.1).set (Int.toNat X) d19.1).set (Int.toNat Y) d19.2.1, e.2.2.1, e.2.2.2.1, e.2.2.2.2.1, e.2.2.2.2.2), [], [], [])
 else none
 else none
 else none
 else none
 else none
 else none
 else none
 else none
 else bif decide (d10.1.1 > d10.1.2) then
   optC (G_num_Not (op, ())) (none) fun d11 ↦
   bif decide (0 ≤ X) then
   optC e.2.1[Int.toNat X]? (none) fun d12 ↦
   bif decide (0 ≤ Y) then
   optC e.2.1[Int.toNat Y]? (none) fun d13 ↦
   optC (G_itv_Refine (d11, d12, d13, ())) (none) fun d14 ↦
   bif X == Y then
   optC (G_itv_Meet (d14.1, d14.2.1, ())) (none) fun d15 ↦
   bif decide (d15.1 > d15.2) then
   some ((false, [], [], [], 0, 0), (false, [], [], [], 0, 0), [], [], [])
 else bif decide (d15.1 > d15.2) then
   some ((false, [], [], [], 0, 0), (false, [], [], [], 0, 0), [], [], [])
 else bif decide (((List.length (α := I) []) + List.length e.2.1 + 1) * 16 ≤ lim) then
   bif decide (0 ≤ X) then
   optC ([] ++ e.2.1)[Int.toNat X]? (none) fun d16 ↦
   optC ([] ++ e.2.1)[Int.toNat X]? (none) fun d17 ↦
   bif decide (0 ≤ Y) then
   optC (([] ++ e.2.1).set (Int.toNat X) d15)[Int.toNat Y]? (none) fun d18 ↦
   optC (([] ++ e.2.1).set (Int.toNat X) d15)[Int.toNat Y]? (none) fun d19 ↦
   some ((false, [], [], [], 0, 0), (e.1, (([] ++ e.2.1).set (Int.toNat X) d15).set (Int.toNat Y) d15, e.2.2.1, e.2.2.2.1, e.2.2.2.2.1, e.2.2.2.2.2), [], [], [])
 else none
 else none
 else none
 else bif decide (d14.1.1 > d14.1.2) then
   some ((false, [], [], [], 0, 0), (false, [], [], [], 0, 0), [], [], [])
 else bif decide (d14.2.1.1 > d14.2.1.2) then
   some ((false, [], [], [], 0, 0), (false, [], [], [], 0, 0), [], [], [])
 else bif decide (((List.length (α := I) []) + List.length e.2.1 + 1) * 16 ≤ lim) then
   bif decide (0 ≤ X) then
   optC ([] ++ e.2.1)[Int.toNat X]? (none) fun d15 ↦
   optC ([] ++ e.2.1)[Int.toNat X]? (none) fun d16 ↦
   bif decide (0 ≤ Y) then
   optC (([] ++ e.2.1).set (Int.toNat X) d14.1)[Int.toNat Y]? (none) fun d17 ↦
   optC (([] ++ e.2.1).set (Int.toNat X) d14.1)[Int.toNat Y]? (none) fun d18 ↦
   some ((false, [], [], [], 0, 0), (e.1, (([] ++ e.2.1).set (Int.toNat X) d14.1).set (Int.toNat Y) d14.2.1, e.2.2.1, e.2.2.2.1, e.2.2.2.2.1, e.2.2.2.2.2), [], [], [])
 else none
 else none
 else none
 else none
 else none
 else bif decide (d10.2.1.1 > d10.2.1.2) then
   optC (G_num_Not (op, ())) (none) fun d11 ↦
   bif decide (0 ≤ X) then
   optC e.2.1[Int.toNat X]? (none) fun d12 ↦
   bif decide (0 ≤ Y) then
   optC e.2.1[Int.toNat Y]? (none) fun d13 ↦
   optC (G_itv_Refine (d11, d12, d13, ())) (none) fun d14 ↦
   bif X == Y then
   optC (G_itv_Meet (d14.1, d14.2.1, ())) (none) fun d15 ↦
   bif decide (d15.1 > d15.2) then
   some ((false, [], [], [], 0, 0), (false, [], [], [], 0, 0), [], [], [])
 else bif decide (d15.1 > d15.2) then
   some ((false, [], [], [], 0, 0), (false, [], [], [], 0, 0), [], [], [])
 else bif decide (((List.length (α := I) []) + List.length e.2.1 + 1) * 16 ≤ lim) then
   bif decide (0 ≤ X) then
   optC ([] ++ e.2.1)[Int.toNat X]? (none) fun d16 ↦
   optC ([] ++ e.2.1)[Int.toNat X]? (none) fun d17 ↦
   bif decide (0 ≤ Y) then
   optC (([] ++ e.2.1).set (Int.toNat X) d15)[Int.toNat Y]? (none) fun d18 ↦
   optC (([] ++ e.2.1).set (Int.toNat X) d15)[Int.toNat Y]? (none) fun d19 ↦
   some ((false, [], [], [], 0, 0), (e.1, (([] ++ e.2.1).set (Int.toNat X) d15).set (Int.toNat Y) d15, e.2.2.1, e.2.2.2.1, e.2.2.2.2.1, e.2.2.2.2.2), [], [], [])
 else none
 else none
 else none
 else bif decide (d14.1.1 > d14.1.2) then
   some ((false, [], [], [], 0, 0), (false, [], [], [], 0, 0), [], [], [])
 else bif decide (d14.2.1.1 > d14.2.1.2) then
   some ((false, [], [], [], 0, 0), (false, [], [], [], 0, 0), [], [], [])
 else bif decide (((List.length (α := I) []) + List.length e.2.1 + 1) * 16 ≤ lim) then
   bif decide (0 ≤ X) then
   optC ([] ++ e.2.1)[Int.toNat X]? (none) fun d15 ↦
   optC ([] ++ e.2.1)[Int.toNat X]? (none) fun d16 ↦
   bif decide (0 ≤ Y) then
   optC (([] ++ e.2.1).set (Int.toNat X) d14.1)[Int.toNat Y]? (none) fun d17 ↦
   optC (([] ++ e.2.1).set (Int.toNat X) d14.1)[Int.toNat Y]? (none) fun d18 ↦
   some ((false, [], [], [], 0, 0), (e.1, (([] ++ e.2.1).set (Int.toNat X) d14.1).set (Int.toNat Y) d14.2.1, e.2.2.1, e.2.2.2.1, e.2.2.2.2.1, e.2.2.2.2.2), [], [], [])
 else none
 else none
 else none
 else none
 else none
 else bif decide (((List.length (α := I) []) + List.length e.2.1 + 1) * 16 ≤ lim) then
   bif decide (0 ≤ X) then
   optC ([] ++ e.2.1)[Int.toNat X]? (none) fun d11 ↦
   optC ([] ++ e.2.1)[Int.toNat X]? (none) fun d12 ↦
   bif decide (0 ≤ Y) then
   optC (([] ++ e.2.1).set (Int.toNat X) d10.1)[Int.toNat Y]? (none) fun d13 ↦
   optC (([] ++ e.2.1).set (Int.toNat X) d10.1)[Int.toNat Y]? (none) fun d14 ↦
   optC (G_num_Not (op, ())) (none) fun d15 ↦
   bif decide (0 ≤ X) then
   optC e.2.1[Int.toNat X]? (none) fun d16 ↦
   bif decide (0 ≤ Y) then
   optC e.2.1[Int.toNat Y]? (none) fun d17 ↦
   optC (G_itv_Refine (d15, d16, d17, ())) (none) fun d18 ↦
   bif X == Y then
   optC (G_itv_Meet (d18.1, d18.2.1, ())) (none) fun d19 ↦
   bif decide (d19.1 > d19.2) then
   some ((e.1, (([] ++ e.2.1).set (Int.toNat X) d10.1).set (Int.toNat Y) d10.2.1, e.2.2.1, e.2.2.2.1, e.2.2.2.2.1, e.2.2.2.2.2), (false, [], [], [], 0, 0), [], [], [])
 else bif decide (d19.1 > d19.2) then
   some ((e.1, (([] ++ e.2.1).set (Int.toNat X) d10.1).set (Int.toNat Y) d10.2.1, e.2.2.1, e.2.2.2.1, e.2.2.2.2.1, e.2.2.2.2.2), (false, [], [], [], 0, 0), [], [], [])
 else bif decide (((List.length (α := I) []) + List.length e.2.1 + 1) * 16 ≤ lim) then
   bif decide (0 ≤ X) then
   optC ([] ++ e.2.1)[Int.toNat X]? (none) fun d20 ↦
   optC ([] ++ e.2.1)[Int.toNat X]? (none) fun d21 ↦
   bif decide (0 ≤ Y) then
   optC (([] ++ e.2.1).set (Int.toNat X) d19)[Int.toNat Y]? (none) fun d22 ↦
   optC (([] ++ e.2.1).set (Int.toNat X) d19)[Int.toNat Y]? (none) fun d23 ↦
   some ((e.1, (([] ++ e.2.1).set (Int.toNat X) d10.1).set (Int.toNat Y) d10.2.1, e.2.2.1, e.2.2.2.1, e.2.2.2.2.1, e.2.2.2.2.2), (e.1, (([] ++ e.2.1).set (Int.toNat X) d19).set (Int.toNat Y) d19, e.2.2.1, e.2.2.2.1, e.2.2.2.2.1, e.2.2.2.2.2), [], [], [])
 else none
 else none
 else none
 else bif decide (d18.1.1 > d18.1.2) then
   some ((e.1, (([] ++ e.2.1).set (Int.toNat X) d10.1).set (Int.toNat Y) d10.2.1, e.2.2.1, e.2.2.2.1, e.2.2.2.2.1, e.2.2.2.2.2), (false, [], [], [], 0, 0), [], [], [])
 else bif decide (d18.2.1.1 > d18.2.1.2) then
   some ((e.1, (([] ++ e.2.1).set (Int.toNat X) d10.1).set (Int.toNat Y) d10.2.1, e.2.2.1, e.2.2.2.1, e.2.2.2.2.1, e.2.2.2.2.2), (false, [], [], [], 0, 0), [], [], [])
 else bif decide (((List.length (α := I) []) + List.length e.2.1 + 1) * 16 ≤ lim) then
   bif decide (0 ≤ X) then
   optC ([] ++ e.2.1)[Int.toNat X]? (none) fun d19 ↦
   optC ([] ++ e.2.1)[Int.toNat X]? (none) fun d20 ↦
   bif decide (0 ≤ Y) then
   optC (([] ++ e.2.1).set (Int.toNat X) d18.1)[Int.toNat Y]? (none) fun d21 ↦
   optC (([] ++ e.2.1).set (Int.toNat X) d18.1)[Int.toNat Y]? (none) fun d22 ↦
   some ((e.1, (([] ++ e.2.1).set (Int.toNat X) d10.1).set (Int.toNat Y) d10.2.1, e.2.2.1, e.2.2.2.1, e.2.2.2.2.1, e.2.2.2.2.2), (e.1, (([] ++ e.2.1).set (Int.toNat X) d18.1).set (Int.toNat Y) d18.2.1, e.2.2.1, e.2.2.2.1, e.2.2.2.2.1, e.2.2.2.2.2), [], [], [])
 else none
 else none
 else none
 else none
 else none
 else none
 else none
 else none
 else none
 else none := by kernel_rfl
theorem F_12 (u : U) (t n : Int) (e : E) (l : List En) (c : C) (T X Y G N op nx el : Int) : bF u t n e l c (12, T, X, Y, G, N, op, nx, el) =
  some ((e.1, e.2.1, e.2.2.1, e.2.2.2.1, e.2.2.2.2.1, e.2.2.2.2.2), (false, [], [], [], 0, 0), [], [], []) := by kernel_rfl
theorem F_13 (u : U) (t n : Int) (e : E) (l : List En) (c : C) (T X Y G N op nx el : Int) : bF u t n e l c (13, T, X, Y, G, N, op, nx, el) =
  some ((false, [], [], [], 0, 0), (false, [], [], [], 0, 0), [10], [], []) := by kernel_rfl
theorem F_14 (u : U) (t n : Int) (e : E) (l : List En) (c : C) (T X Y G N op nx el : Int) : bF u t n e l c (14, T, X, Y, G, N, op, nx, el) =
  some ((false, [], [], [], 0, 0), (false, [], [], [], 0, 0), [], [], []) := by kernel_rfl
noncomputable def bR (u : U) (t n : Int) (e : E) (l : List En) (c : C) (a : A) : Option O :=
  bif a.1 == 1 then
   optC (G_ref13_with (e, a.2.1, (a.2.2.2.2.2.1, a.2.2.2.2.2.1), ())) (none) fun d8 ↦
   some ((d8.1, d8.2.1, d8.2.2.1, d8.2.2.2.1, d8.2.2.2.2.1, d8.2.2.2.2.2), (false, [], [], [], 0, 0), [], [], [])
 else bif a.1 == 2 then
   bif decide (0 ≤ a.2.2.1) then
   optC e.2.1[Int.toNat a.2.2.1]? (none) fun d8 ↦
   optC (G_ref13_with (e, a.2.1, d8, ())) (none) fun d9 ↦
   some ((d9.1, d9.2.1, d9.2.2.1, d9.2.2.2.1, d9.2.2.2.2.1, d9.2.2.2.2.2), (false, [], [], [], 0, 0), [], [], [])
 else none
 else bif a.1 == 3 then
   optC (G_ref13_with (e, a.2.1, (-2147483648, 2147483647), ())) (none) fun d8 ↦
   some ((d8.1, d8.2.1, d8.2.2.1, d8.2.2.2.1, d8.2.2.2.2.1, d8.2.2.2.2.2), (false, [], [], [], 0, 0), [], [], [])
 else bif a.1 == 4 then
   optC (G_ref13_op (a, e, ())) (none) fun d8 ↦
   bif decide (0 < (↑(List.length d8.2.2.2.2) : Int)) then
   optC d8.2.2.2.2[Int.toNat 0]? (none) fun d9 ↦
   none
 else some ((d8.1.1, d8.1.2.1, d8.1.2.2.1, d8.1.2.2.2.1, d8.1.2.2.2.2.1, d8.1.2.2.2.2.2), (d8.2.1.1, d8.2.1.2.1, d8.2.1.2.2.1, d8.2.1.2.2.2.1, d8.2.1.2.2.2.2.1, d8.2.1.2.2.2.2.2), d8.2.2.1, d8.2.2.2.1, d8.2.2.2.2)
 else bif a.1 == 5 then
   optC (G_ref13_Read (t, e, l, false, a.2.2.2.2.1, ())) (none) fun d8 ↦
   optC (G_ref13_with (e, a.2.1, d8, ())) (none) fun d9 ↦
   some ((d9.1, d9.2.1, d9.2.2.1, d9.2.2.2.1, d9.2.2.2.2.1, d9.2.2.2.2.2), (false, [], [], [], 0, 0), [], [], [(t, n, false, a.2.2.2.2.1, false, e.2.2.2.2.1)])
 else bif a.1 == 6 then
   bif decide (((List.length (α := I) []) + List.length e.2.2.1 + 1) * 16 ≤ lim) then
   bif decide (0 ≤ a.2.2.1) then
   optC e.2.1[Int.toNat a.2.2.1]? (none) fun d8 ↦
   bif decide (0 ≤ a.2.2.2.2.1) then
   optC ([] ++ e.2.2.1)[Int.toNat a.2.2.2.2.1]? (none) fun d9 ↦
   optC ([] ++ e.2.2.1)[Int.toNat a.2.2.2.2.1]? (none) fun d10 ↦
   bif decide (0 ≤ a.2.2.1) then
   optC e.2.1[Int.toNat a.2.2.1]? (none) fun d11 ↦
   some ((e.1, e.2.1, ([] ++ e.2.2.1).set (Int.toNat a.2.2.2.2.1) d8, e.2.2.2.1, e.2.2.2.2.1, e.2.2.2.2.2), (false, [], [], [], 0, 0), [], [(t, false, a.2.2.2.2.1, e.2.2.2.2.1, d11.1, d11.2)], [(t, n, false, a.2.2.2.2.1, true, e.2.2.2.2.1)])
 else none
 else none
 else none
 else none
 else bif a.1 == 7 then
   bif decide (0 ≤ a.2.2.2.2.1) then
   optC u.2.1[Int.toNat a.2.2.2.2.1]? (none) fun d8 ↦
   bif decide (0 ≤ a.2.2.1) then
   optC e.2.1[Int.toNat a.2.2.1]? (none) fun d9 ↦
   optC (G_ref2_Leq (d9, (0, Go.IntKind.i64.wrap (d8 - 1)), ())) (none) fun d10 ↦
   bif !d10 then
   optC (G_ref2_Meet (d9, (0, Go.IntKind.i64.wrap (d8 - 1)), ())) (none) fun d11 ↦
   bif a.1 == 8 then
   bif decide (0 ≤ a.2.2.2.1) then
   optC e.2.1[Int.toNat a.2.2.2.1]? (none) fun d12 ↦
   bif decide (d11.1 > d11.2) then
   some ((false, [], [], [], 0, 0), (false, [], [], [], 0, 0), [9], [(t, true, a.2.2.2.2.1, e.2.2.2.2.1, d12.1, d12.2)], [(t, n, true, a.2.2.2.2.1, a.1 == 8, e.2.2.2.2.1)])
 else optC (G_ref13_with (e, a.2.2.1, d11, ())) (none) fun d13 ↦
   bif a.1 == 7 then
   optC (G_ref13_Read (t, d13, l, true, a.2.2.2.2.1, ())) (none) fun d14 ↦
   optC (G_ref13_with (d13, a.2.1, d14, ())) (none) fun d15 ↦
   some ((d15.1, d15.2.1, d15.2.2.1, d15.2.2.2.1, d15.2.2.2.2.1, d15.2.2.2.2.2), (false, [], [], [], 0, 0), [9], [(t, true, a.2.2.2.2.1, e.2.2.2.2.1, d12.1, d12.2)], [(t, n, true, a.2.2.2.2.1, a.1 == 8, e.2.2.2.2.1)])
 else bif decide (((List.length (α := I) []) + List.length d13.2.2.2.1 + 1) * 16 ≤ lim) then
   bif decide (0 ≤ a.2.2.2.2.1) then
   optC ([] ++ d13.2.2.2.1)[Int.toNat a.2.2.2.2.1]? (none) fun d14 ↦
   optC ([] ++ d13.2.2.2.1)[Int.toNat a.2.2.2.2.1]? (none) fun d15 ↦
   bif decide (0 ≤ a.2.2.2.1) then
   optC d13.2.1[Int.toNat a.2.2.2.1]? (none) fun d16 ↦
   optC (G_ref2_Join (d15, d16, ())) (none) fun d17 ↦
   bif decide (0 ≤ a.2.2.2.2.1) then
   optC ([] ++ d13.2.2.2.1)[Int.toNat a.2.2.2.2.1]? (none) fun d18 ↦
   optC ([] ++ d13.2.2.2.1)[Int.toNat a.2.2.2.2.1]? (none) fun d19 ↦
   some ((d13.1, d13.2.1, d13.2.2.1, ([] ++ d13.2.2.2.1).set (Int.toNat a.2.2.2.2.1) d17, d13.2.2.2.2.1, d13.2.2.2.2.2), (false, [], [], [], 0, 0), [9], [(t, true, a.2.2.2.2.1, e.2.2.2.2.1, d12.1, d12.2)], [(t, n, true, a.2.2.2.2.1, a.1 == 8, e.2.2.2.2.1)])
 else none
 else none
 else none
 else none
 else none
 else bif decide (d11.1 > d11.2) then
   some ((false, [], [], [], 0, 0), (false, [], [], [], 0, 0), [9], [], [(t, n, true, a.2.2.2.2.1, a.1 == 8, e.2.2.2.2.1)])
 else optC (G_ref13_with (e, a.2.2.1, d11, ())) (none) fun d12 ↦
   bif a.1 == 7 then
   optC (G_ref13_Read (t, d12, l, true, a.2.2.2.2.1, ())) (none) fun d13 ↦
   optC (G_ref13_with (d12, a.2.1, d13, ())) (none) fun d14 ↦
   some ((d14.1, d14.2.1, d14.2.2.1, d14.2.2.2.1, d14.2.2.2.2.1, d14.2.2.2.2.2), (false, [], [], [], 0, 0), [9], [], [(t, n, true, a.2.2.2.2.1, a.1 == 8, e.2.2.2.2.1)])
 else bif decide (((List.length (α := I) []) + List.length d12.2.2.2.1 + 1) * 16 ≤ lim) then
   bif decide (0 ≤ a.2.2.2.2.1) then
   optC ([] ++ d12.2.2.2.1)[Int.toNat a.2.2.2.2.1]? (none) fun d13 ↦
   optC ([] ++ d12.2.2.2.1)[Int.toNat a.2.2.2.2.1]? (none) fun d14 ↦
   bif decide (0 ≤ a.2.2.2.1) then
   optC d12.2.1[Int.toNat a.2.2.2.1]? (none) fun d15 ↦
   optC (G_ref2_Join (d14, d15, ())) (none) fun d16 ↦
   bif decide (0 ≤ a.2.2.2.2.1) then
   optC ([] ++ d12.2.2.2.1)[Int.toNat a.2.2.2.2.1]? (none) fun d17 ↦
   optC ([] ++ d12.2.2.2.1)[Int.toNat a.2.2.2.2.1]? (none) fun d18 ↦
   some ((d12.1, d12.2.1, d12.2.2.1, ([] ++ d12.2.2.2.1).set (Int.toNat a.2.2.2.2.1) d16, d12.2.2.2.2.1, d12.2.2.2.2.2), (false, [], [], [], 0, 0), [9], [], [(t, n, true, a.2.2.2.2.1, a.1 == 8, e.2.2.2.2.1)])
 else none
 else none
 else none
 else none
 else optC (G_ref2_Meet (d9, (0, Go.IntKind.i64.wrap (d8 - 1)), ())) (none) fun d11 ↦
   bif a.1 == 8 then
   bif decide (0 ≤ a.2.2.2.1) then
   optC e.2.1[Int.toNat a.2.2.2.1]? (none) fun d12 ↦
   bif decide (d11.1 > d11.2) then
   some ((false, [], [], [], 0, 0), (false, [], [], [], 0, 0), [], [(t, true, a.2.2.2.2.1, e.2.2.2.2.1, d12.1, d12.2)], [(t, n, true, a.2.2.2.2.1, a.1 == 8, e.2.2.2.2.1)])
 else optC (G_ref13_with (e, a.2.2.1, d11, ())) (none) fun d13 ↦
   bif a.1 == 7 then
   optC (G_ref13_Read (t, d13, l, true, a.2.2.2.2.1, ())) (none) fun d14 ↦
   optC (G_ref13_with (d13, a.2.1, d14, ())) (none) fun d15 ↦
   some ((d15.1, d15.2.1, d15.2.2.1, d15.2.2.2.1, d15.2.2.2.2.1, d15.2.2.2.2.2), (false, [], [], [], 0, 0), [], [(t, true, a.2.2.2.2.1, e.2.2.2.2.1, d12.1, d12.2)], [(t, n, true, a.2.2.2.2.1, a.1 == 8, e.2.2.2.2.1)])
 else bif decide (((List.length (α := I) []) + List.length d13.2.2.2.1 + 1) * 16 ≤ lim) then
   bif decide (0 ≤ a.2.2.2.2.1) then
   optC ([] ++ d13.2.2.2.1)[Int.toNat a.2.2.2.2.1]? (none) fun d14 ↦
   optC ([] ++ d13.2.2.2.1)[Int.toNat a.2.2.2.2.1]? (none) fun d15 ↦
   bif decide (0 ≤ a.2.2.2.1) then
   optC d13.2.1[Int.toNat a.2.2.2.1]? (none) fun d16 ↦
   optC (G_ref2_Join (d15, d16, ())) (none) fun d17 ↦
   bif decide (0 ≤ a.2.2.2.2.1) then
   optC ([] ++ d13.2.2.2.1)[Int.toNat a.2.2.2.2.1]? (none) fun d18 ↦
   optC ([] ++ d13.2.2.2.1)[Int.toNat a.2.2.2.2.1]? (none) fun d19 ↦
   some ((d13.1, d13.2.1, d13.2.2.1, ([] ++ d13.2.2.2.1).set (Int.toNat a.2.2.2.2.1) d17, d13.2.2.2.2.1, d13.2.2.2.2.2), (false, [], [], [], 0, 0), [], [(t, true, a.2.2.2.2.1, e.2.2.2.2.1, d12.1, d12.2)], [(t, n, true, a.2.2.2.2.1, a.1 == 8, e.2.2.2.2.1)])
 else none
 else none
 else none
 else none
 else none
 else bif decide (d11.1 > d11.2) then
   some ((false, [], [], [], 0, 0), (false, [], [], [], 0, 0), [], [], [(t, n, true, a.2.2.2.2.1, a.1 == 8, e.2.2.2.2.1)])
 else optC (G_ref13_with (e, a.2.2.1, d11, ())) (none) fun d12 ↦
   bif a.1 == 7 then
   optC (G_ref13_Read (t, d12, l, true, a.2.2.2.2.1, ())) (none) fun d13 ↦
   optC (G_ref13_with (d12, a.2.1, d13, ())) (none) fun d14 ↦
   some ((d14.1, d14.2.1, d14.2.2.1, d14.2.2.2.1, d14.2.2.2.2.1, d14.2.2.2.2.2), (false, [], [], [], 0, 0), [], [], [(t, n, true, a.2.2.2.2.1, a.1 == 8, e.2.2.2.2.1)])
 else bif decide (((List.length (α := I) []) + List.length d12.2.2.2.1 + 1) * 16 ≤ lim) then
   bif decide (0 ≤ a.2.2.2.2.1) then
   optC ([] ++ d12.2.2.2.1)[Int.toNat a.2.2.2.2.1]? (none) fun d13 ↦
   optC ([] ++ d12.2.2.2.1)[Int.toNat a.2.2.2.2.1]? (none) fun d14 ↦
   bif decide (0 ≤ a.2.2.2.1) then
   optC d12.2.1[Int.toNat a.2.2.2.1]? (none) fun d15 ↦
   optC (G_ref2_Join (d14, d15, ())) (none) fun d16 ↦
   bif decide (0 ≤ a.2.2.2.2.1) then
   optC ([] ++ d12.2.2.2.1)[Int.toNat a.2.2.2.2.1]? (none) fun d17 ↦
   optC ([] ++ d12.2.2.2.1)[Int.toNat a.2.2.2.2.1]? (none) fun d18 ↦
   some ((d12.1, d12.2.1, d12.2.2.1, ([] ++ d12.2.2.2.1).set (Int.toNat a.2.2.2.2.1) d16, d12.2.2.2.2.1, d12.2.2.2.2.2), (false, [], [], [], 0, 0), [], [], [(t, n, true, a.2.2.2.2.1, a.1 == 8, e.2.2.2.2.1)])
 else none
 else none
 else none
 else none
 else none
 else none
 else bif a.1 == 8 then
   bif decide (0 ≤ a.2.2.2.2.1) then
   optC u.2.1[Int.toNat a.2.2.2.2.1]? (none) fun d8 ↦
   bif decide (0 ≤ a.2.2.1) then
   optC e.2.1[Int.toNat a.2.2.1]? (none) fun d9 ↦
   optC (G_ref2_Leq (d9, (0, Go.IntKind.i64.wrap (d8 - 1)), ())) (none) fun d10 ↦
   bif !d10 then
   optC (G_ref2_Meet (d9, (0, Go.IntKind.i64.wrap (d8 - 1)), ())) (none) fun d11 ↦
   bif a.1 == 8 then
   bif decide (0 ≤ a.2.2.2.1) then
   optC e.2.1[Int.toNat a.2.2.2.1]? (none) fun d12 ↦
   bif decide (d11.1 > d11.2) then
   some ((false, [], [], [], 0, 0), (false, [], [], [], 0, 0), [9], [(t, true, a.2.2.2.2.1, e.2.2.2.2.1, d12.1, d12.2)], [(t, n, true, a.2.2.2.2.1, a.1 == 8, e.2.2.2.2.1)])
 else optC (G_ref13_with (e, a.2.2.1, d11, ())) (none) fun d13 ↦
   bif a.1 == 7 then
   optC (G_ref13_Read (t, d13, l, true, a.2.2.2.2.1, ())) (none) fun d14 ↦
   optC (G_ref13_with (d13, a.2.1, d14, ())) (none) fun d15 ↦
   some ((d15.1, d15.2.1, d15.2.2.1, d15.2.2.2.1, d15.2.2.2.2.1, d15.2.2.2.2.2), (false, [], [], [], 0, 0), [9], [(t, true, a.2.2.2.2.1, e.2.2.2.2.1, d12.1, d12.2)], [(t, n, true, a.2.2.2.2.1, a.1 == 8, e.2.2.2.2.1)])
 else bif decide (((List.length (α := I) []) + List.length d13.2.2.2.1 + 1) * 16 ≤ lim) then
   bif decide (0 ≤ a.2.2.2.2.1) then
   optC ([] ++ d13.2.2.2.1)[Int.toNat a.2.2.2.2.1]? (none) fun d14 ↦
   optC ([] ++ d13.2.2.2.1)[Int.toNat a.2.2.2.2.1]? (none) fun d15 ↦
   bif decide (0 ≤ a.2.2.2.1) then
   optC d13.2.1[Int.toNat a.2.2.2.1]? (none) fun d16 ↦
   optC (G_ref2_Join (d15, d16, ())) (none) fun d17 ↦
   bif decide (0 ≤ a.2.2.2.2.1) then
   optC ([] ++ d13.2.2.2.1)[Int.toNat a.2.2.2.2.1]? (none) fun d18 ↦
   optC ([] ++ d13.2.2.2.1)[Int.toNat a.2.2.2.2.1]? (none) fun d19 ↦
   some ((d13.1, d13.2.1, d13.2.2.1, ([] ++ d13.2.2.2.1).set (Int.toNat a.2.2.2.2.1) d17, d13.2.2.2.2.1, d13.2.2.2.2.2), (false, [], [], [], 0, 0), [9], [(t, true, a.2.2.2.2.1, e.2.2.2.2.1, d12.1, d12.2)], [(t, n, true, a.2.2.2.2.1, a.1 == 8, e.2.2.2.2.1)])
 else none
 else none
 else none
 else none
 else none
 else bif decide (d11.1 > d11.2) then
   some ((false, [], [], [], 0, 0), (false, [], [], [], 0, 0), [9], [], [(t, n, true, a.2.2.2.2.1, a.1 == 8, e.2.2.2.2.1)])
 else optC (G_ref13_with (e, a.2.2.1, d11, ())) (none) fun d12 ↦
   bif a.1 == 7 then
   optC (G_ref13_Read (t, d12, l, true, a.2.2.2.2.1, ())) (none) fun d13 ↦
   optC (G_ref13_with (d12, a.2.1, d13, ())) (none) fun d14 ↦
   some ((d14.1, d14.2.1, d14.2.2.1, d14.2.2.2.1, d14.2.2.2.2.1, d14.2.2.2.2.2), (false, [], [], [], 0, 0), [9], [], [(t, n, true, a.2.2.2.2.1, a.1 == 8, e.2.2.2.2.1)])
 else bif decide (((List.length (α := I) []) + List.length d12.2.2.2.1 + 1) * 16 ≤ lim) then
   bif decide (0 ≤ a.2.2.2.2.1) then
   optC ([] ++ d12.2.2.2.1)[Int.toNat a.2.2.2.2.1]? (none) fun d13 ↦
   optC ([] ++ d12.2.2.2.1)[Int.toNat a.2.2.2.2.1]? (none) fun d14 ↦
   bif decide (0 ≤ a.2.2.2.1) then
   optC d12.2.1[Int.toNat a.2.2.2.1]? (none) fun d15 ↦
   optC (G_ref2_Join (d14, d15, ())) (none) fun d16 ↦
   bif decide (0 ≤ a.2.2.2.2.1) then
   optC ([] ++ d12.2.2.2.1)[Int.toNat a.2.2.2.2.1]? (none) fun d17 ↦
   optC ([] ++ d12.2.2.2.1)[Int.toNat a.2.2.2.2.1]? (none) fun d18 ↦
   some ((d12.1, d12.2.1, d12.2.2.1, ([] ++ d12.2.2.2.1).set (Int.toNat a.2.2.2.2.1) d16, d12.2.2.2.2.1, d12.2.2.2.2.2), (false, [], [], [], 0, 0), [9], [], [(t, n, true, a.2.2.2.2.1, a.1 == 8, e.2.2.2.2.1)])
 else none
 else none
 else none
 else none
 else optC (G_ref2_Meet (d9, (0, Go.IntKind.i64.wrap (d8 - 1)), ())) (none) fun d11 ↦
   bif a.1 == 8 then
   bif decide (0 ≤ a.2.2.2.1) then
   optC e.2.1[Int.toNat a.2.2.2.1]? (none) fun d12 ↦
   bif decide (d11.1 > d11.2) then
   some ((false, [], [], [], 0, 0), (false, [], [], [], 0, 0), [], [(t, true, a.2.2.2.2.1, e.2.2.2.2.1, d12.1, d12.2)], [(t, n, true, a.2.2.2.2.1, a.1 == 8, e.2.2.2.2.1)])
 else optC (G_ref13_with (e, a.2.2.1, d11, ())) (none) fun d13 ↦
   bif a.1 == 7 then
   optC (G_ref13_Read (t, d13, l, true, a.2.2.2.2.1, ())) (none) fun d14 ↦
   optC (G_ref13_with (d13, a.2.1, d14, ())) (none) fun d15 ↦
   some ((d15.1, d15.2.1, d15.2.2.1, d15.2.2.2.1, d15.2.2.2.2.1, d15.2.2.2.2.2), (false, [], [], [], 0, 0), [], [(t, true, a.2.2.2.2.1, e.2.2.2.2.1, d12.1, d12.2)], [(t, n, true, a.2.2.2.2.1, a.1 == 8, e.2.2.2.2.1)])
 else bif decide (((List.length (α := I) []) + List.length d13.2.2.2.1 + 1) * 16 ≤ lim) then
   bif decide (0 ≤ a.2.2.2.2.1) then
   optC ([] ++ d13.2.2.2.1)[Int.toNat a.2.2.2.2.1]? (none) fun d14 ↦
   optC ([] ++ d13.2.2.2.1)[Int.toNat a.2.2.2.2.1]? (none) fun d15 ↦
   bif decide (0 ≤ a.2.2.2.1) then
   optC d13.2.1[Int.toNat a.2.2.2.1]? (none) fun d16 ↦
   optC (G_ref2_Join (d15, d16, ())) (none) fun d17 ↦
   bif decide (0 ≤ a.2.2.2.2.1) then
   optC ([] ++ d13.2.2.2.1)[Int.toNat a.2.2.2.2.1]? (none) fun d18 ↦
   optC ([] ++ d13.2.2.2.1)[Int.toNat a.2.2.2.2.1]? (none) fun d19 ↦
   some ((d13.1, d13.2.1, d13.2.2.1, ([] ++ d13.2.2.2.1).set (Int.toNat a.2.2.2.2.1) d17, d13.2.2.2.2.1, d13.2.2.2.2.2), (false, [], [], [], 0, 0), [], [(t, true, a.2.2.2.2.1, e.2.2.2.2.1, d12.1, d12.2)], [(t, n, true, a.2.2.2.2.1, a.1 == 8, e.2.2.2.2.1)])
 else none
 else none
 else none
 else none
 else none
 else bif decide (d11.1 > d11.2) then
   some ((false, [], [], [], 0, 0), (false, [], [], [], 0, 0), [], [], [(t, n, true, a.2.2.2.2.1, a.1 == 8, e.2.2.2.2.1)])
 else optC (G_ref13_with (e, a.2.2.1, d11, ())) (none) fun d12 ↦
   bif a.1 == 7 then
   optC (G_ref13_Read (t, d12, l, true, a.2.2.2.2.1, ())) (none) fun d13 ↦
   optC (G_ref13_with (d12, a.2.1, d13, ())) (none) fun d14 ↦
   some ((d14.1, d14.2.1, d14.2.2.1, d14.2.2.2.1, d14.2.2.2.2.1, d14.2.2.2.2.2), (false, [], [], [], 0, 0), [], [], [(t, n, true, a.2.2.2.2.1, a.1 == 8, e.2.2.2.2.1)])
 else bif decide (((List.length (α := I) []) + List.length d12.2.2.2.1 + 1) * 16 ≤ lim) then
   bif decide (0 ≤ a.2.2.2.2.1) then
   optC ([] ++ d12.2.2.2.1)[Int.toNat a.2.2.2.2.1]? (none) fun d13 ↦
   optC ([] ++ d12.2.2.2.1)[Int.toNat a.2.2.2.2.1]? (none) fun d14 ↦
   bif decide (0 ≤ a.2.2.2.1) then
   optC d12.2.1[Int.toNat a.2.2.2.1]? (none) fun d15 ↦
   optC (G_ref2_Join (d14, d15, ())) (none) fun d16 ↦
   bif decide (0 ≤ a.2.2.2.2.1) then
   optC ([] ++ d12.2.2.2.1)[Int.toNat a.2.2.2.2.1]? (none) fun d17 ↦
   optC ([] ++ d12.2.2.2.1)[Int.toNat a.2.2.2.2.1]? (none) fun d18 ↦
   some ((d12.1, d12.2.1, d12.2.2.1, ([] ++ d12.2.2.2.1).set (Int.toNat a.2.2.2.2.1) d16, d12.2.2.2.2.1, d12.2.2.2.2.2), (false, [], [], [], 0, 0), [], [], [(t, n, true, a.2.2.2.2.1, a.1 == 8, e.2.2.2.2.1)])
 else none
 else none
 else none
 else none
 else none
 else none
 else bif a.1 == 9 then
   optC (G_ref13_lock (t, a, e, l, ())) (none) fun d8 ↦
   bif decide (0 < (↑(List.length d8.2.2.2.2) : Int)) then
   optC d8.2.2.2.2[Int.toNat 0]? (none) fun d9 ↦
   none
 else some ((d8.1.1, d8.1.2.1, d8.1.2.2.1, d8.1.2.2.2.1, d8.1.2.2.2.2.1, d8.1.2.2.2.2.2), (d8.2.1.1, d8.2.1.2.1, d8.2.1.2.2.1, d8.2.1.2.2.2.1, d8.2.1.2.2.2.2.1, d8.2.1.2.2.2.2.2), d8.2.2.1, d8.2.2.2.1, d8.2.2.2.2)
 else bif a.1 == 10 then
   optC (G_ref13_unlock (a, e, ())) (none) fun d8 ↦
   bif decide (0 < (↑(List.length d8.2.2.2.2) : Int)) then
   optC d8.2.2.2.2[Int.toNat 0]? (none) fun d9 ↦
   none
 else some ((d8.1.1, d8.1.2.1, d8.1.2.2.1, d8.1.2.2.2.1, d8.1.2.2.2.2.1, d8.1.2.2.2.2.2), (d8.2.1.1, d8.2.1.2.1, d8.2.1.2.2.1, d8.2.1.2.2.2.1, d8.2.1.2.2.2.2.1, d8.2.1.2.2.2.2.2), d8.2.2.1, d8.2.2.2.1, d8.2.2.2.2)
 else bif a.1 == 11 then
   optC (G_ref13_side (a, e, a.2.2.2.2.2.2.1, ())) (none) fun d8 ↦
   optC (G_ref1_Not (a.2.2.2.2.2.2.1, ())) (none) fun d9 ↦
   optC (G_ref13_side (a, e, d9, ())) (none) fun d10 ↦
   some ((d8.1, d8.2.1, d8.2.2.1, d8.2.2.2.1, d8.2.2.2.2.1, d8.2.2.2.2.2), (d10.1, d10.2.1, d10.2.2.1, d10.2.2.2.1, d10.2.2.2.2.1, d10.2.2.2.2.2), [], [], [])
 else bif a.1 == 13 then
   some ((false, [], [], [], 0, 0), (false, [], [], [], 0, 0), [10], [], [])
 else bif a.1 == 14 then
   some ((false, [], [], [], 0, 0), (false, [], [], [], 0, 0), [], [], [])
 else some ((e.1, e.2.1, e.2.2.1, e.2.2.2.1, e.2.2.2.2.1, e.2.2.2.2.2), (false, [], [], [], 0, 0), [], [], [])
theorem bR_at (u : U) (t n : Int) (e : E) (l : List En) (c : C) (a : A) (h0 : 0 ≤ t) (hc : u.2.2.2[t.toNat]? = some c) (h1 : 0 ≤ n) (ha : c.2[n.toNat]? = some a) (he : e.1 = true) : g_ref13_Do u t n e l = bR u t n e l c a := by
  have e0 : decide (0 ≤ t) = true := decide_eq_true h0
  have e1 : decide (0 ≤ n) = true := decide_eq_true h1
  have e2 : (!e.1) = false := by rw [he]; rfl
  unfold g_ref13_Do
  rw [e0, hc, e1, e2, cond_true, cond_false, optC_some, cond_true, ha, optC_some]
  
  
  rfl
theorem R_1 (u : U) (t n : Int) (e : E) (l : List En) (c : C) (T X Y G N op nx el : Int) : bR u t n e l c (1, T, X, Y, G, N, op, nx, el) =
  optC (G_ref13_with (e, T, (N, N), ())) (none) fun d8 ↦
   some ((d8.1, d8.2.1, d8.2.2.1, d8.2.2.2.1, d8.2.2.2.2.1, d8.2.2.2.2.2), (false, [], [], [], 0, 0), [], [], []) := by kernel_rfl
theorem R_2 (u : U) (t n : Int) (e : E) (l : List En) (c : C) (T X Y G N op nx el : Int) : bR u t n e l c (2, T, X, Y, G, N, op, nx, el) =
  bif decide (0 ≤ X) then
   optC e.2.1[Int.toNat X]? (none) fun d8 ↦
   optC (G_ref13_with (e, T, d8, ())) (none) fun d9 ↦
   some ((d9.1, d9.2.1, d9.2.2.1, d9.2.2.2.1, d9.2.2.2.2.1, d9.2.2.2.2.2), (false, [], [], [], 0, 0), [], [], [])
 else none := by kernel_rfl
theorem R_3 (u : U) (t n : Int) (e : E) (l : List En) (c : C) (T X Y G N op nx el : Int) : bR u t n e l c (3, T, X, Y, G, N, op, nx, el) =
  optC (G_ref13_with (e, T, (-2147483648, 2147483647), ())) (none) fun d8 ↦
   some ((d8.1, d8.2.1, d8.2.2.1, d8.2.2.2.1, d8.2.2.2.2.1, d8.2.2.2.2.2), (false, [], [], [], 0, 0), [], [], []) := by kernel_rfl
theorem R_4 (u : U) (t n : Int) (e : E) (l : List En) (c : C) (T X Y G N op nx el : Int) : bR u t n e l c (4, T, X, Y, G, N, op, nx, el) =
  optC (G_ref13_op ((4, T, X, Y, G, N, op, nx, el), e, ())) (none) fun d8 ↦
   bif decide (0 < (↑(List.length d8.2.2.2.2) : Int)) then
   optC d8.2.2.2.2[Int.toNat 0]? (none) fun d9 ↦
   none
 else some ((d8.1.1, d8.1.2.1, d8.1.2.2.1, d8.1.2.2.2.1, d8.1.2.2.2.2.1, d8.1.2.2.2.2.2), (d8.2.1.1, d8.2.1.2.1, d8.2.1.2.2.1, d8.2.1.2.2.2.1, d8.2.1.2.2.2.2.1, d8.2.1.2.2.2.2.2), d8.2.2.1, d8.2.2.2.1, d8.2.2.2.2) := by kernel_rfl
theorem R_5 (u : U) (t n : Int) (e : E) (l : List En) (c : C) (T X Y G N op nx el : Int) : bR u t n e l c (5, T, X, Y, G, N, op, nx, el) =
  optC (G_ref13_Read (t, e, l, false, G, ())) (none) fun d8 ↦
   optC (G_ref13_with (e, T, d8, ())) (none) fun d9 ↦
   some ((d9.1, d9.2.1, d9.2.2.1, d9.2.2.2.1, d9.2.2.2.2.1, d9.2.2.2.2.2), (false, [], [], [], 0, 0), [], [], [(t, n, false, G, false, e.2.2.2.2.1)]) := by kernel_rfl
theorem R_6 (u : U) (t n : Int) (e : E) (l : List En) (c : C) (T X Y G N op nx el : Int) : bR u t n e l c (6, T, X, Y, G, N, op, nx, el) =
  bif decide (((List.length (α := I) []) + List.length e.2.2.1 + 1) * 16 ≤ lim) then
   bif decide (0 ≤ X) then
   optC e.2.1[Int.toNat X]? (none) fun d8 ↦
   bif decide (0 ≤ G) then
   optC ([] ++ e.2.2.1)[Int.toNat G]? (none) fun d9 ↦
   optC ([] ++ e.2.2.1)[Int.toNat G]? (none) fun d10 ↦
   bif decide (0 ≤ X) then
   optC e.2.1[Int.toNat X]? (none) fun d11 ↦
   some ((e.1, e.2.1, ([] ++ e.2.2.1).set (Int.toNat G) d8, e.2.2.2.1, e.2.2.2.2.1, e.2.2.2.2.2), (false, [], [], [], 0, 0), [], [(t, false, G, e.2.2.2.2.1, d11.1, d11.2)], [(t, n, false, G, true, e.2.2.2.2.1)])
 else none
 else none
 else none
 else none := by kernel_rfl
theorem R_7 (u : U) (t n : Int) (e : E) (l : List En) (c : C) (T X Y G N op nx el : Int) : bR u t n e l c (7, T, X, Y, G, N, op, nx, el) =
  bif decide (0 ≤ G) then
   optC u.2.1[Int.toNat G]? (none) fun d8 ↦
   bif decide (0 ≤ X) then
   optC e.2.1[Int.toNat X]? (none) fun d9 ↦
   optC (G_ref2_Leq (d9, (0, Go.IntKind.i64.wrap (d8 - 1)), ())) (none) fun d10 ↦
   bif !d10 then
   optC (G_ref2_Meet (d9, (0, Go.IntKind.i64.wrap (d8 - 1)), ())) (none) fun d11 ↦
   bif decide (d11.1 > d11.2) then
   some ((false, [], [], [], 0, 0), (false, [], [], [], 0, 0), [9], [], [(t, n, true, G, 7 == 8, e.2.2.2.2.1)])
 else optC (G_ref13_with (e, X, d11, ())) (none) fun d12 ↦
   optC (G_ref13_Read (t, d12, l, true, G, ())) (none) fun d13 ↦
   optC (G_ref13_with (d12, T, d13, ())) (none) fun d14 ↦
   some ((d14.1, d14.2.1, d14.2.2.1, d14.2.2.2.1, d14.2.2.2.2.1, d14.2.2.2.2.2), (false, [], [], [], 0, 0), [9], [], [(t, n, true, G, 7 == 8, e.2.2.2.2.1)])
 else optC (G_ref2_Meet (d9, (0, Go.IntKind.i64.wrap (d8 - 1)), ())) (none) fun d11 ↦
   bif decide (d11.1 > d11.2) then
   some ((false, [], [], [], 0, 0), (false, [], [], [], 0, 0), [], [], [(t, n, true, G, 7 == 8, e.2.2.2.2.1)])
 else optC (G_ref13_with (e, X, d11, ())) (none) fun d12 ↦
   optC (G_ref13_Read (t, d12, l, true, G, ())) (none) fun d13 ↦
   optC (G_ref13_with (d12, T, d13, ())) (none) fun d14 ↦
   some ((d14.1, d14.2.1, d14.2.2.1, d14.2.2.2.1, d14.2.2.2.2.1, d14.2.2.2.2.2), (false, [], [], [], 0, 0), [], [], [(t, n, true, G, 7 == 8, e.2.2.2.2.1)])
 else none
 else none := by kernel_rfl
theorem R_8 (u : U) (t n : Int) (e : E) (l : List En) (c : C) (T X Y G N op nx el : Int) : bR u t n e l c (8, T, X, Y, G, N, op, nx, el) =
  bif decide (0 ≤ G) then
   optC u.2.1[Int.toNat G]? (none) fun d8 ↦
   bif decide (0 ≤ X) then
   optC e.2.1[Int.toNat X]? (none) fun d9 ↦
   optC (G_ref2_Leq (d9, (0, Go.IntKind.i64.wrap (d8 - 1)), ())) (none) fun d10 ↦
   bif !d10 then
   optC (G_ref2_Meet (d9, (0, Go.IntKind.i64.wrap (d8 - 1)), ())) (none) fun d11 ↦
   bif decide (0 ≤ Y) then
   optC e.2.1[Int.toNat Y]? (none) fun d12 ↦
   bif decide (d11.1 > d11.2) then
   some ((false, [], [], [], 0, 0), (false, [], [], [], 0, 0), [9], [(t, true, G, e.2.2.2.2.1, d12.1, d12.2)], [(t, n, true, G, 8 == 8, e.2.2.2.2.1)])
 else optC (G_ref13_with (e, X, d11, ())) (none) fun d13 ↦
   bif decide (((List.length (α := I) []) + List.length d13.2.2.2.1 + 1) * 16 ≤ lim) then
   bif decide (0 ≤ G) then
   optC ([] ++ d13.2.2.2.1)[Int.toNat G]? (none) fun d14 ↦
   optC ([] ++ d13.2.2.2.1)[Int.toNat G]? (none) fun d15 ↦
   bif decide (0 ≤ Y) then
   optC d13.2.1[Int.toNat Y]? (none) fun d16 ↦
   optC (G_ref2_Join (d15, d16, ())) (none) fun d17 ↦
   bif decide (0 ≤ G) then
   optC ([] ++ d13.2.2.2.1)[Int.toNat G]? (none) fun d18 ↦
   optC ([] ++ d13.2.2.2.1)[Int.toNat G]? (none) fun d19 ↦
   some ((d13.1, d13.2.1, d13.2.2.1, ([] ++ d13.2.2.2.1).set (Int.toNat G) d17, d13.2.2.2.2.1, d13.2.2.2.2.2), (false, [], [], [], 0, 0), [9], [(t, true, G, e.2.2.2.2.1, d12.1, d12.2)], [(t, n, true, G, 8 == 8, e.2.2.2.2.1)])
 else none
 else none
 else none
 else none
 else none
 else optC (G_ref2_Meet (d9, (0, Go.IntKind.i64.wrap (d8 - 1)), ())) (none) fun d11 ↦
   bif decide (0 ≤ Y) then
   optC e.2.1[Int.toNat Y]? (none) fun d12 ↦
   bif decide (d11.1 > d11.2) then
   some ((false, [], [], [], 0, 0), (false, [], [], [], 0, 0), [], [(t, true, G, e.2.2.2.2.1, d12.1, d12.2)], [(t, n, true, G, 8 == 8, e.2.2.2.2.1)])
 else optC (G_ref13_with (e, X, d11, ())) (none) fun d13 ↦
   bif decide (((List.length (α := I) []) + List.length d13.2.2.2.1 + 1) * 16 ≤ lim) then
   bif decide (0 ≤ G) then
   optC ([] ++ d13.2.2.2.1)[Int.toNat G]? (none) fun d14 ↦
   optC ([] ++ d13.2.2.2.1)[Int.toNat G]? (none) fun d15 ↦
   bif decide (0 ≤ Y) then
   optC d13.2.1[Int.toNat Y]? (none) fun d16 ↦
   optC (G_ref2_Join (d15, d16, ())) (none) fun d17 ↦
   bif decide (0 ≤ G) then
   optC ([] ++ d13.2.2.2.1)[Int.toNat G]? (none) fun d18 ↦
   optC ([] ++ d13.2.2.2.1)[Int.toNat G]? (none) fun d19 ↦
   some ((d13.1, d13.2.1, d13.2.2.1, ([] ++ d13.2.2.2.1).set (Int.toNat G) d17, d13.2.2.2.2.1, d13.2.2.2.2.2), (false, [], [], [], 0, 0), [], [(t, true, G, e.2.2.2.2.1, d12.1, d12.2)], [(t, n, true, G, 8 == 8, e.2.2.2.2.1)])
 else none
 else none
 else none
 else none
 else none
 else none
 else none := by kernel_rfl
theorem R_9 (u : U) (t n : Int) (e : E) (l : List En) (c : C) (T X Y G N op nx el : Int) : bR u t n e l c (9, T, X, Y, G, N, op, nx, el) =
  optC (G_ref13_lock (t, (9, T, X, Y, G, N, op, nx, el), e, l, ())) (none) fun d8 ↦
   bif decide (0 < (↑(List.length d8.2.2.2.2) : Int)) then
   optC d8.2.2.2.2[Int.toNat 0]? (none) fun d9 ↦
   none
 else some ((d8.1.1, d8.1.2.1, d8.1.2.2.1, d8.1.2.2.2.1, d8.1.2.2.2.2.1, d8.1.2.2.2.2.2), (d8.2.1.1, d8.2.1.2.1, d8.2.1.2.2.1, d8.2.1.2.2.2.1, d8.2.1.2.2.2.2.1, d8.2.1.2.2.2.2.2), d8.2.2.1, d8.2.2.2.1, d8.2.2.2.2) := by kernel_rfl
theorem R_10 (u : U) (t n : Int) (e : E) (l : List En) (c : C) (T X Y G N op nx el : Int) : bR u t n e l c (10, T, X, Y, G, N, op, nx, el) =
  optC (G_ref13_unlock ((10, T, X, Y, G, N, op, nx, el), e, ())) (none) fun d8 ↦
   bif decide (0 < (↑(List.length d8.2.2.2.2) : Int)) then
   optC d8.2.2.2.2[Int.toNat 0]? (none) fun d9 ↦
   none
 else some ((d8.1.1, d8.1.2.1, d8.1.2.2.1, d8.1.2.2.2.1, d8.1.2.2.2.2.1, d8.1.2.2.2.2.2), (d8.2.1.1, d8.2.1.2.1, d8.2.1.2.2.1, d8.2.1.2.2.2.1, d8.2.1.2.2.2.2.1, d8.2.1.2.2.2.2.2), d8.2.2.1, d8.2.2.2.1, d8.2.2.2.2) := by kernel_rfl
theorem R_11 (u : U) (t n : Int) (e : E) (l : List En) (c : C) (T X Y G N op nx el : Int) : bR u t n e l c (11, T, X, Y, G, N, op, nx, el) =
  optC (G_ref13_side ((11, T, X, Y, G, N, op, nx, el), e, op, ())) (none) fun d8 ↦
   optC (G_ref1_Not (op, ())) (none) fun d9 ↦
   optC (G_ref13_side ((11, T, X, Y, G, N, op, nx, el), e, d9, ())) (none) fun d10 ↦
   some ((d8.1, d8.2.1, d8.2.2.1, d8.2.2.2.1, d8.2.2.2.2.1, d8.2.2.2.2.2), (d10.1, d10.2.1, d10.2.2.1, d10.2.2.2.1, d10.2.2.2.2.1, d10.2.2.2.2.2), [], [], []) := by kernel_rfl
theorem R_12 (u : U) (t n : Int) (e : E) (l : List En) (c : C) (T X Y G N op nx el : Int) : bR u t n e l c (12, T, X, Y, G, N, op, nx, el) =
  some ((e.1, e.2.1, e.2.2.1, e.2.2.2.1, e.2.2.2.2.1, e.2.2.2.2.2), (false, [], [], [], 0, 0), [], [], []) := by kernel_rfl
theorem R_13 (u : U) (t n : Int) (e : E) (l : List En) (c : C) (T X Y G N op nx el : Int) : bR u t n e l c (13, T, X, Y, G, N, op, nx, el) =
  some ((false, [], [], [], 0, 0), (false, [], [], [], 0, 0), [10], [], []) := by kernel_rfl
theorem R_14 (u : U) (t n : Int) (e : E) (l : List En) (c : C) (T X Y G N op nx el : Int) : bR u t n e l c (14, T, X, Y, G, N, op, nx, el) =
  some ((false, [], [], [], 0, 0), (false, [], [], [], 0, 0), [], [], []) := by kernel_rfl
end Go.Proofs.Ytbdcblpjemmipaa.Ex

namespace Go.Proofs.Ytbdcblpjemmipaa.Ex
set_option maxRecDepth 100000
set_option linter.unusedVariables false
set_option linter.unusedSimpArgs false
theorem both_chain (x y c d : I) : (bif empB x then some ((1, 0), (1, 0), ()) else bif empB y then some ((1, 0), (1, 0), ()) else bif empB c then some ((1, 0), (1, 0), ()) else bif empB d then some ((1, 0), (1, 0), ()) else some (c, d, ()) : Option (I × I × Unit)) =
    some ((both x y c d).1, (both x y c d).2, ()) := by
  unfold both
  cases empB x <;> cases empB y <;> cases empB c <;> cases empB d <;> rfl
theorem rboth_chain (x y c d : I) : (bif empB x then some ((1, 0), (1, 0), ()) else bif empB y then some ((1, 0), (1, 0), ()) else bif empB c then some ((1, 0), (1, 0), ()) else bif empB d then some ((1, 0), (1, 0), ()) else some (c, d, ()) : Option (I × I × Unit)) =
    some ((rboth x y c d).1, (rboth x y c d).2, ()) := both_chain x y c d
theorem n_itv_without (x y : I) (hx : isB x = true) : g_itv_without x y = some (wout x y) := by
  obtain ⟨x1, x2⟩ := isB_abs hx
  have w1 : IntKind.i64.wrap (x.1 + 1) = x.1 + 1 := wr (by omega)
  have w2 : IntKind.i64.wrap (x.2 - 1) = x.2 - 1 := wr (by omega)
  unfold g_itv_without wout
  simp only [w1, w2]
  by_cases h1 : y.1 = y.2
  · rw [show (y.1 != y.2) = false by simp [bne, h1], if_pos h1]
    by_cases h2 : x.1 = y.1
    · rw [show (x.1 == y.1) = true by simp [h2], if_pos h2]; rfl
    · rw [show (x.1 == y.1) = false by simp [h2], if_neg h2]
      by_cases h3 : x.2 = y.1
      · rw [show (x.2 == y.1) = true by simp [h3], if_pos h3]; rfl
      · rw [show (x.2 == y.1) = false by simp [h3], if_neg h3]; rfl
  · rw [show (y.1 != y.2) = true by simp [bne, h1], if_neg h1]; rfl
theorem n_ref2_other (x y : I) (hx : isB x = true) : g_ref2_other x y = some (oth x y) := by
  obtain ⟨x1, x2⟩ := isB_abs hx
  have w1 : IntKind.i64.wrap (x.1 + 1) = x.1 + 1 := wr (by omega)
  have w2 : IntKind.i64.wrap (x.2 - 1) = x.2 - 1 := wr (by omega)
  unfold g_ref2_other oth G_ref2_span
  simp only [w1, w2, n_ref2_span, optC_some]
  by_cases h1 : y.1 = y.2
  · rw [show (y.1 != y.2) = false by simp [bne, h1], if_pos h1]
    by_cases h2 : y.1 = x.1
    · rw [show (y.1 == x.1) = true by simp [h2], if_pos h2]
      by_cases h3 : y.1 = x.2
      · rw [show (y.1 == x.2) = true by simp [h3], if_pos h3]; rfl
      · rw [show (y.1 == x.2) = false by simp [h3], if_neg h3]; rfl
    · rw [show (y.1 == x.1) = false by simp [h2], if_neg h2]
      by_cases h3 : y.1 = x.2
      · rw [show (y.1 == x.2) = true by simp [h3], if_pos h3]; rfl
      · rw [show (y.1 == x.2) = false by simp [h3], if_neg h3]; rfl
  · rw [show (y.1 != y.2) = true by simp [bne, h1], if_neg h1]; rfl
theorem n_itv_Refine (r : Int) (x y : I) (hx : isB x = true) (hy : isB y = true) : g_itv_Refine r x y = some ((refI r x y).1, (refI r x y).2, ()) := by
  obtain ⟨x1, x2⟩ := isB_abs hx
  obtain ⟨y1, y2⟩ := isB_abs hy
  have w1 : IntKind.i64.wrap (x.1 + 1) = x.1 + 1 := wr (by omega)
  have w2 : IntKind.i64.wrap (x.2 - 1) = x.2 - 1 := wr (by omega)
  have w3 : IntKind.i64.wrap (y.1 + 1) = y.1 + 1 := wr (by omega)
  have w4 : IntKind.i64.wrap (y.2 - 1) = y.2 - 1 := wr (by omega)
  unfold g_itv_Refine refI
  simp only [w1, w2, w3, w4, mn_def, mx_def, G_itv_Meet, n_itv_Meet, G_itv_without, n_itv_without x y hx, n_itv_without y x hy, optC_some]
  by_cases o1 : r = 1
  · subst o1; exact both_chain x y (x.1, mn x.2 (y.2 - 1)) (mx y.1 (x.1 + 1), y.2)
  by_cases o2 : r = 2
  · subst o2; exact both_chain x y (x.1, mn x.2 y.2) (mx y.1 x.1, y.2)
  by_cases o5 : r = 5
  · subst o5; exact both_chain x y (mx x.1 y.1, x.2) (y.1, mn y.2 x.2)
  by_cases o6 : r = 6
  · subst o6; exact both_chain x y (mx x.1 (y.1 + 1), x.2) (y.1, mn y.2 (x.2 - 1))
  by_cases o3 : r = 3
  · subst o3; exact both_chain x y (iMeet x y) (iMeet x y)
  by_cases o4 : r = 4
  · subst o4; exact both_chain x y (wout x y) (wout y x)
  simp only [o1, o2, o3, o4, o5, o6, if_false, beq_eq_false_iff_ne.2 o1, beq_eq_false_iff_ne.2 o2, beq_eq_false_iff_ne.2 o3, beq_eq_false_iff_ne.2 o4, beq_eq_false_iff_ne.2 o5, beq_eq_false_iff_ne.2 o6, cond_false]
  rfl
theorem n_ref2_Refine (r : Int) (x y : I) (hx : isB x = true) (hy : isB y = true) : g_ref2_Refine r x y = some ((refI r x y).1, (refI r x y).2, ()) := by
  rw [ref_eq]
  obtain ⟨x1, x2⟩ := isB_abs hx
  obtain ⟨y1, y2⟩ := isB_abs hy
  have w1 : IntKind.i64.wrap (x.1 + 1) = x.1 + 1 := wr (by omega)
  have w2 : IntKind.i64.wrap (x.2 - 1) = x.2 - 1 := wr (by omega)
  have w3 : IntKind.i64.wrap (y.1 + 1) = y.1 + 1 := wr (by omega)
  have w4 : IntKind.i64.wrap (y.2 - 1) = y.2 - 1 := wr (by omega)
  unfold g_ref2_Refine rrefI
  simp only [w1, w2, w3, w4, mn_def, mx_def, G_ref2_Meet, n_ref2_Meet, G_ref2_span, n_ref2_span, G_ref2_other, n_ref2_other x y hx, n_ref2_other y x hy, optC_some]
  by_cases o1 : r = 1
  · subst o1; exact rboth_chain x y (iSpan x.1 (mn x.2 (y.2 - 1))) (iSpan (mx y.1 (x.1 + 1)) y.2)
  by_cases o2 : r = 2
  · subst o2; exact rboth_chain x y (iSpan x.1 (mn x.2 y.2)) (iSpan (mx y.1 x.1) y.2)
  by_cases o6 : r = 6
  · subst o6; exact rboth_chain x y (iSpan (mx x.1 (y.1 + 1)) x.2) (iSpan y.1 (mn y.2 (x.2 - 1)))
  by_cases o5 : r = 5
  · subst o5; exact rboth_chain x y (iSpan (mx x.1 y.1) x.2) (iSpan y.1 (mn y.2 x.2))
  by_cases o3 : r = 3
  · subst o3; exact rboth_chain x y (mSpan x y) (mSpan x y)
  by_cases o4 : r = 4
  · subst o4; exact rboth_chain x y (oth x y) (oth y x)
  simp only [o1, o2, o3, o4, o5, o6, if_false, beq_eq_false_iff_ne.2 o1, beq_eq_false_iff_ne.2 o2, beq_eq_false_iff_ne.2 o3, beq_eq_false_iff_ne.2 o4, beq_eq_false_iff_ne.2 o5, beq_eq_false_iff_ne.2 o6, cond_false]
  cases decide (x.1 > x.2) <;> cases decide (y.1 > y.2) <;> rfl
end Go.Proofs.Ytbdcblpjemmipaa.Ex

namespace Go.Proofs.Ytbdcblpjemmipaa.Ex
open Go.Proofs
set_option maxRecDepth 100000
set_option maxHeartbeats 2000000
set_option linter.unusedVariables false
set_option linter.unusedSimpArgs false
theorem look {α β : Type} {l : List α} {i : Nat} (h : i < l.length) (b : β) (n : β) : optC l[i]? n (fun _ => b) = b := by rw [List.getElem?_eq_getElem h]; rfl
theorem limc {n : Nat} (h : n ≤ 1000) : decide ((n + 1) * 16 ≤ lim) = true := decide_eq_true (by unfold lim; omega)
theorem inB_iff {k n : Int} : inB k n = true ↔ 0 ≤ k ∧ k < n := by simp [inB]
theorem look_ex {α : Type} (l : List α) (i : Int) (h : 0 ≤ i ∧ i < (l.length : Int)) : ∃ d, l[i.toNat]? = some d := ⟨l[i.toNat]'(by omega), List.getElem?_eq_getElem _⟩
theorem itv_of (n : Int) (h : fitB n = true) : G_itv_Of ([n], ()) = some (n, n) := n_itv_Of1 n h
theorem exO {p q : Option O} {o : O} (h1 : p = some o) (h2 : q = some o) (h3 : smallO o) : ∃ o, p = some o ∧ q = some o ∧ smallO o := ⟨o, h1, h2, h3⟩
theorem both_ne (x y c d : I) : both x y c d = (nn, nn) ∨ (empB (both x y c d).1 = false ∧ empB (both x y c d).2 = false) := by
  unfold both
  cases empB x
  · cases empB y
    · cases h1 : empB c
      · cases h2 : empB d
        · exact .inr ⟨h1, h2⟩
        · exact .inl rfl
      · exact .inl rfl
    · exact .inl rfl
  · exact .inl rfl
theorem ref_ne (r : Int) (x y : I) : refI r x y = (nn, nn) ∨ (empB (refI r x y).1 = false ∧ empB (refI r x y).2 = false) := by
  unfold refI
  repeat' split
  all_goals first | exact both_ne .. | exact .inl rfl
theorem ref_meet (r : Int) (x y : I) : iMeet (refI r x y).1 (refI r x y).2 = mSpan (refI r x y).1 (refI r x y).2 := by
  rcases ref_ne r x y with h | h
  · rw [h]; decide
  · exact meet_span h.1 h.2
theorem not_ex (op : Int) : ∃ w, g_num_Not op = some w := by
  unfold g_num_Not
  cases op == 1 <;> cases op == 2 <;> cases op == 3 <;> cases op == 4 <;> cases op == 5 <;> cases op == 6 <;> exact ⟨_, rfl⟩
theorem do_1 (u : U) (t n : Int) (e : E) (l : List En) (c : C) (T X Y G N op nx el : Int) (h0 : 0 ≤ t) (hu : unitOK u) (hl : tabOK l) (hn : l.length ≤ 60) (he : envOK u t e) (hc : u.2.2.2[t.toNat]? = some c) (ha : actOK u c (1, T, X, Y, G, N, op, nx, el)) : ∃ o, bF u t n e l c (1, T, X, Y, G, N, op, nx, el) = some o ∧ bR u t n e l c (1, T, X, Y, G, N, op, nx, el) = some o ∧ smallO o := by
  obtain ⟨c', hc', hv⟩ := he.c
  obtain rfl : c' = c := by rw [hc] at hc'; exact (Option.some.inj hc').symm
  have cv := (hu.ts c' (List.mem_of_getElem? hc')).v
  have V0 : e.2.1.length ≤ 1000 := by omega
  have G0 : e.2.2.1.length ≤ 1000 := by rw [he.g]; have := hu.g; omega
  have A0 : e.2.2.2.1.length ≤ 1000 := by rw [he.a]; have := hu.a; omega
  have hE := hl.e
  have hm := he.must
  have hy := he.may
  have hn' : l.length < 9223372036854775807 := by omega
  have hn2 : l.length < 1000000000000 := by omega
  have hT : 0 ≤ T ∧ T < c'.1 := inB_iff.1 ha.h1
  have eT : decide (0 ≤ T) = true := decide_eq_true hT.1
  have lT : T.toNat < e.2.1.length := by omega
  have hN : fitB N = true := ha.n
  apply exO
  · simp only [F_1, itv_of N hN, List.nil_append, List.length_nil, Nat.zero_add, List.length_set, limc V0, limc G0, limc A0, cond_true, cond_false, optC_some, Bool.not_true, Bool.not_false, eT, look lT]
    rfl
  · (simp only [R_1, G_ref13_with, n_ref13_with e T (N, N) hT.1 (by omega) V0, List.nil_append, List.length_nil, Nat.zero_add, List.length_set, limc V0, limc G0, limc A0, cond_true, cond_false, optC_some, Bool.not_true, Bool.not_false]) <;> rfl
  · refine ⟨⟨?_, ?_, ?_⟩, ⟨?_, ?_, ?_⟩, ?_, ?_, ?_⟩ <;> simp only [List.length_set, List.length_nil, List.length_cons, gmap, List.length_mapIdx] <;> omega
theorem do_2 (u : U) (t n : Int) (e : E) (l : List En) (c : C) (T X Y G N op nx el : Int) (h0 : 0 ≤ t) (hu : unitOK u) (hl : tabOK l) (hn : l.length ≤ 60) (he : envOK u t e) (hc : u.2.2.2[t.toNat]? = some c) (ha : actOK u c (2, T, X, Y, G, N, op, nx, el)) : ∃ o, bF u t n e l c (2, T, X, Y, G, N, op, nx, el) = some o ∧ bR u t n e l c (2, T, X, Y, G, N, op, nx, el) = some o ∧ smallO o := by
  obtain ⟨c', hc', hv⟩ := he.c
  obtain rfl : c' = c := by rw [hc] at hc'; exact (Option.some.inj hc').symm
  have cv := (hu.ts c' (List.mem_of_getElem? hc')).v
  have V0 : e.2.1.length ≤ 1000 := by omega
  have G0 : e.2.2.1.length ≤ 1000 := by rw [he.g]; have := hu.g; omega
  have A0 : e.2.2.2.1.length ≤ 1000 := by rw [he.a]; have := hu.a; omega
  have hE := hl.e
  have hm := he.must
  have hy := he.may
  have hn' : l.length < 9223372036854775807 := by omega
  have hn2 : l.length < 1000000000000 := by omega
  have hT : 0 ≤ T ∧ T < c'.1 := inB_iff.1 ha.h1
  have eT : decide (0 ≤ T) = true := decide_eq_true hT.1
  have lT : T.toNat < e.2.1.length := by omega
  have hX : 0 ≤ X ∧ X < c'.1 := inB_iff.1 ha.h2
  have eX : decide (0 ≤ X) = true := decide_eq_true hX.1
  have lX : X.toNat < e.2.1.length := by omega
  obtain ⟨x, gx⟩ := look_ex e.2.1 X (by omega)
  have vx := he.v x (List.mem_append_left _ (List.mem_append_left _ (List.mem_of_getElem? gx)))
  apply exO
  · simp only [F_2, gx, List.nil_append, List.length_nil, Nat.zero_add, List.length_set, limc V0, limc G0, limc A0, cond_true, cond_false, optC_some, Bool.not_true, Bool.not_false, eT, eX, look lT]
    rfl
  · (simp only [R_2, G_ref13_with, n_ref13_with e T x hT.1 (by omega) V0, gx, eX, List.nil_append, List.length_nil, Nat.zero_add, List.length_set, limc V0, limc G0, limc A0, cond_true, cond_false, optC_some, Bool.not_true, Bool.not_false]) <;> rfl
  · refine ⟨⟨?_, ?_, ?_⟩, ⟨?_, ?_, ?_⟩, ?_, ?_, ?_⟩ <;> simp only [List.length_set, List.length_nil, List.length_cons, gmap, List.length_mapIdx] <;> omega
theorem do_3 (u : U) (t n : Int) (e : E) (l : List En) (c : C) (T X Y G N op nx el : Int) (h0 : 0 ≤ t) (hu : unitOK u) (hl : tabOK l) (hn : l.length ≤ 60) (he : envOK u t e) (hc : u.2.2.2[t.toNat]? = some c) (ha : actOK u c (3, T, X, Y, G, N, op, nx, el)) : ∃ o, bF u t n e l c (3, T, X, Y, G, N, op, nx, el) = some o ∧ bR u t n e l c (3, T, X, Y, G, N, op, nx, el) = some o ∧ smallO o := by
  obtain ⟨c', hc', hv⟩ := he.c
  obtain rfl : c' = c := by rw [hc] at hc'; exact (Option.some.inj hc').symm
  have cv := (hu.ts c' (List.mem_of_getElem? hc')).v
  have V0 : e.2.1.length ≤ 1000 := by omega
  have G0 : e.2.2.1.length ≤ 1000 := by rw [he.g]; have := hu.g; omega
  have A0 : e.2.2.2.1.length ≤ 1000 := by rw [he.a]; have := hu.a; omega
  have hE := hl.e
  have hm := he.must
  have hy := he.may
  have hn' : l.length < 9223372036854775807 := by omega
  have hn2 : l.length < 1000000000000 := by omega
  have hT : 0 ≤ T ∧ T < c'.1 := inB_iff.1 ha.h1
  have eT : decide (0 ≤ T) = true := decide_eq_true hT.1
  have lT : T.toNat < e.2.1.length := by omega
  apply exO
  · simp only [F_3, List.nil_append, List.length_nil, Nat.zero_add, List.length_set, limc V0, limc G0, limc A0, cond_true, cond_false, optC_some, Bool.not_true, Bool.not_false, eT, look lT]
    rfl
  · (simp only [R_3, G_ref13_with, n_ref13_with e T (-2147483648, 2147483647) hT.1 (by omega) V0, List.nil_append, List.length_nil, Nat.zero_add, List.length_set, limc V0, limc G0, limc A0, cond_true, cond_false, optC_some, Bool.not_true, Bool.not_false]) <;> rfl
  · refine ⟨⟨?_, ?_, ?_⟩, ⟨?_, ?_, ?_⟩, ?_, ?_, ?_⟩ <;> simp only [List.length_set, List.length_nil, List.length_cons, gmap, List.length_mapIdx] <;> omega
theorem do_5 (u : U) (t n : Int) (e : E) (l : List En) (c : C) (T X Y G N op nx el : Int) (h0 : 0 ≤ t) (hu : unitOK u) (hl : tabOK l) (hn : l.length ≤ 60) (he : envOK u t e) (hc : u.2.2.2[t.toNat]? = some c) (ha : actOK u c (5, T, X, Y, G, N, op, nx, el)) : ∃ o, bF u t n e l c (5, T, X, Y, G, N, op, nx, el) = some o ∧ bR u t n e l c (5, T, X, Y, G, N, op, nx, el) = some o ∧ smallO o := by
  obtain ⟨c', hc', hv⟩ := he.c
  obtain rfl : c' = c := by rw [hc] at hc'; exact (Option.some.inj hc').symm
  have cv := (hu.ts c' (List.mem_of_getElem? hc')).v
  have V0 : e.2.1.length ≤ 1000 := by omega
  have G0 : e.2.2.1.length ≤ 1000 := by rw [he.g]; have := hu.g; omega
  have A0 : e.2.2.2.1.length ≤ 1000 := by rw [he.a]; have := hu.a; omega
  have hE := hl.e
  have hm := he.must
  have hy := he.may
  have hn' : l.length < 9223372036854775807 := by omega
  have hn2 : l.length < 1000000000000 := by omega
  have hT : 0 ≤ T ∧ T < c'.1 := inB_iff.1 ha.h1
  have eT : decide (0 ≤ T) = true := decide_eq_true hT.1
  have lT : T.toNat < e.2.1.length := by omega
  have hG : 0 ≤ G ∧ G < (u.1.length : Int) := inB_iff.1 ha.h4
  have eG : decide (0 ≤ G) = true := decide_eq_true hG.1
  have lG : G.toNat < e.2.2.1.length := by rw [he.g]; omega
  obtain ⟨gd, hgd⟩ := look_ex e.2.2.1 G (by rw [he.g]; omega)
  have r1 := n_flow_Read u t e l false G gd hG.1 hgd hm hE hn'
  have r2 := n_ref13_Read t e l false G gd hG.1 hgd hm hE hn'
  apply exO
  · simp only [F_5, G_flow_Read, r1, List.nil_append, List.length_nil, Nat.zero_add, List.length_set, limc V0, limc G0, limc A0, cond_true, cond_false, optC_some, Bool.not_true, Bool.not_false, eT, look lT]
    rfl
  · (simp only [R_5, G_ref13_Read, r2, G_ref13_with, n_ref13_with e T _ hT.1 (by omega) V0, List.nil_append, List.length_nil, Nat.zero_add, List.length_set, limc V0, limc G0, limc A0, cond_true, cond_false, optC_some, Bool.not_true, Bool.not_false]) <;> rfl
  · refine ⟨⟨?_, ?_, ?_⟩, ⟨?_, ?_, ?_⟩, ?_, ?_, ?_⟩ <;> simp only [List.length_set, List.length_nil, List.length_cons, gmap, List.length_mapIdx] <;> omega
theorem do_6 (u : U) (t n : Int) (e : E) (l : List En) (c : C) (T X Y G N op nx el : Int) (h0 : 0 ≤ t) (hu : unitOK u) (hl : tabOK l) (hn : l.length ≤ 60) (he : envOK u t e) (hc : u.2.2.2[t.toNat]? = some c) (ha : actOK u c (6, T, X, Y, G, N, op, nx, el)) : ∃ o, bF u t n e l c (6, T, X, Y, G, N, op, nx, el) = some o ∧ bR u t n e l c (6, T, X, Y, G, N, op, nx, el) = some o ∧ smallO o := by
  obtain ⟨c', hc', hv⟩ := he.c
  obtain rfl : c' = c := by rw [hc] at hc'; exact (Option.some.inj hc').symm
  have cv := (hu.ts c' (List.mem_of_getElem? hc')).v
  have V0 : e.2.1.length ≤ 1000 := by omega
  have G0 : e.2.2.1.length ≤ 1000 := by rw [he.g]; have := hu.g; omega
  have A0 : e.2.2.2.1.length ≤ 1000 := by rw [he.a]; have := hu.a; omega
  have hE := hl.e
  have hm := he.must
  have hy := he.may
  have hn' : l.length < 9223372036854775807 := by omega
  have hn2 : l.length < 1000000000000 := by omega
  have hX : 0 ≤ X ∧ X < c'.1 := inB_iff.1 ha.h2
  have eX : decide (0 ≤ X) = true := decide_eq_true hX.1
  have lX : X.toNat < e.2.1.length := by omega
  obtain ⟨x, gx⟩ := look_ex e.2.1 X (by omega)
  have vx := he.v x (List.mem_append_left _ (List.mem_append_left _ (List.mem_of_getElem? gx)))
  have hG : 0 ≤ G ∧ G < (u.1.length : Int) := inB_iff.1 ha.h4
  have eG : decide (0 ≤ G) = true := decide_eq_true hG.1
  have lG : G.toNat < e.2.2.1.length := by rw [he.g]; omega
  obtain ⟨gd, hgd⟩ := look_ex e.2.2.1 G (by rw [he.g]; omega)
  apply exO
  · simp only [F_6, gx, List.nil_append, List.length_nil, Nat.zero_add, List.length_set, limc V0, limc G0, limc A0, cond_true, cond_false, optC_some, Bool.not_true, Bool.not_false, eX, eG, look lG]
    rfl
  · (simp only [R_6, gx, eX, eG, look lG, List.nil_append, List.length_nil, Nat.zero_add, List.length_set, limc V0, limc G0, limc A0, cond_true, cond_false, optC_some, Bool.not_true, Bool.not_false]) <;> rfl
  · refine ⟨⟨?_, ?_, ?_⟩, ⟨?_, ?_, ?_⟩, ?_, ?_, ?_⟩ <;> simp only [List.length_set, List.length_nil, List.length_cons, gmap, List.length_mapIdx] <;> omega
theorem do_12 (u : U) (t n : Int) (e : E) (l : List En) (c : C) (T X Y G N op nx el : Int) (h0 : 0 ≤ t) (hu : unitOK u) (hl : tabOK l) (hn : l.length ≤ 60) (he : envOK u t e) (hc : u.2.2.2[t.toNat]? = some c) (ha : actOK u c (12, T, X, Y, G, N, op, nx, el)) : ∃ o, bF u t n e l c (12, T, X, Y, G, N, op, nx, el) = some o ∧ bR u t n e l c (12, T, X, Y, G, N, op, nx, el) = some o ∧ smallO o := by
  obtain ⟨c', hc', hv⟩ := he.c
  obtain rfl : c' = c := by rw [hc] at hc'; exact (Option.some.inj hc').symm
  have cv := (hu.ts c' (List.mem_of_getElem? hc')).v
  have V0 : e.2.1.length ≤ 1000 := by omega
  have G0 : e.2.2.1.length ≤ 1000 := by rw [he.g]; have := hu.g; omega
  have A0 : e.2.2.2.1.length ≤ 1000 := by rw [he.a]; have := hu.a; omega
  have hE := hl.e
  have hm := he.must
  have hy := he.may
  have hn' : l.length < 9223372036854775807 := by omega
  have hn2 : l.length < 1000000000000 := by omega
  apply exO
  · simp only [F_12]
    rfl
  · (simp only [R_12]) <;> rfl
  · refine ⟨⟨?_, ?_, ?_⟩, ⟨?_, ?_, ?_⟩, ?_, ?_, ?_⟩ <;> simp only [List.length_set, List.length_nil, List.length_cons, gmap, List.length_mapIdx] <;> omega
theorem do_13 (u : U) (t n : Int) (e : E) (l : List En) (c : C) (T X Y G N op nx el : Int) (h0 : 0 ≤ t) (hu : unitOK u) (hl : tabOK l) (hn : l.length ≤ 60) (he : envOK u t e) (hc : u.2.2.2[t.toNat]? = some c) (ha : actOK u c (13, T, X, Y, G, N, op, nx, el)) : ∃ o, bF u t n e l c (13, T, X, Y, G, N, op, nx, el) = some o ∧ bR u t n e l c (13, T, X, Y, G, N, op, nx, el) = some o ∧ smallO o := by
  obtain ⟨c', hc', hv⟩ := he.c
  obtain rfl : c' = c := by rw [hc] at hc'; exact (Option.some.inj hc').symm
  have cv := (hu.ts c' (List.mem_of_getElem? hc')).v
  have V0 : e.2.1.length ≤ 1000 := by omega
  have G0 : e.2.2.1.length ≤ 1000 := by rw [he.g]; have := hu.g; omega
  have A0 : e.2.2.2.1.length ≤ 1000 := by rw [he.a]; have := hu.a; omega
  have hE := hl.e
  have hm := he.must
  have hy := he.may
  have hn' : l.length < 9223372036854775807 := by omega
  have hn2 : l.length < 1000000000000 := by omega
  apply exO
  · simp only [F_13]
    rfl
  · (simp only [R_13]) <;> rfl
  · refine ⟨⟨?_, ?_, ?_⟩, ⟨?_, ?_, ?_⟩, ?_, ?_, ?_⟩ <;> simp only [List.length_set, List.length_nil, List.length_cons, gmap, List.length_mapIdx] <;> omega
theorem do_14 (u : U) (t n : Int) (e : E) (l : List En) (c : C) (T X Y G N op nx el : Int) (h0 : 0 ≤ t) (hu : unitOK u) (hl : tabOK l) (hn : l.length ≤ 60) (he : envOK u t e) (hc : u.2.2.2[t.toNat]? = some c) (ha : actOK u c (14, T, X, Y, G, N, op, nx, el)) : ∃ o, bF u t n e l c (14, T, X, Y, G, N, op, nx, el) = some o ∧ bR u t n e l c (14, T, X, Y, G, N, op, nx, el) = some o ∧ smallO o := by
  obtain ⟨c', hc', hv⟩ := he.c
  obtain rfl : c' = c := by rw [hc] at hc'; exact (Option.some.inj hc').symm
  have cv := (hu.ts c' (List.mem_of_getElem? hc')).v
  have V0 : e.2.1.length ≤ 1000 := by omega
  have G0 : e.2.2.1.length ≤ 1000 := by rw [he.g]; have := hu.g; omega
  have A0 : e.2.2.2.1.length ≤ 1000 := by rw [he.a]; have := hu.a; omega
  have hE := hl.e
  have hm := he.must
  have hy := he.may
  have hn' : l.length < 9223372036854775807 := by omega
  have hn2 : l.length < 1000000000000 := by omega
  apply exO
  · simp only [F_14]
    rfl
  · (simp only [R_14]) <;> rfl
  · refine ⟨⟨?_, ?_, ?_⟩, ⟨?_, ?_, ?_⟩, ?_, ?_, ?_⟩ <;> simp only [List.length_set, List.length_nil, List.length_cons, gmap, List.length_mapIdx] <;> omega
end Go.Proofs.Ytbdcblpjemmipaa.Ex

namespace Go.Proofs.Ytbdcblpjemmipaa.Ex
open Go.Proofs
set_option maxRecDepth 100000
set_option maxHeartbeats 2000000
set_option linter.unusedVariables false
set_option linter.unusedSimpArgs false
theorem do_9 (u : U) (t n : Int) (e : E) (l : List En) (c : C) (T X Y G N op nx el : Int) (h0 : 0 ≤ t) (hu : unitOK u) (hl : tabOK l) (hn : l.length ≤ 60) (he : envOK u t e) (hc : u.2.2.2[t.toNat]? = some c) (ha : actOK u c (9, T, X, Y, G, N, op, nx, el)) : ∃ o, bF u t n e l c (9, T, X, Y, G, N, op, nx, el) = some o ∧ bR u t n e l c (9, T, X, Y, G, N, op, nx, el) = some o ∧ smallO o := by
  obtain ⟨c', hc', hv⟩ := he.c
  obtain rfl : c' = c := by rw [hc] at hc'; exact (Option.some.inj hc').symm
  have cv := (hu.ts c' (List.mem_of_getElem? hc')).v
  have V0 : e.2.1.length ≤ 1000 := by omega
  have G0 : e.2.2.1.length ≤ 1000 := by rw [he.g]; have := hu.g; omega
  have A0 : e.2.2.2.1.length ≤ 1000 := by rw [he.a]; have := hu.a; omega
  have hE := hl.e
  have hm := he.must
  have hy := he.may
  have hn' : l.length < 9223372036854775807 := by omega
  have hn2 : l.length < 1000000000000 := by omega
  have hG : 0 ≤ G ∧ G < u.2.2.1 := inB_iff.1 ha.h4
  have hM : 0 ≤ G ∧ G < 31 := by have := hu.m; omega
  have a1 := n_held_Has e.2.2.2.2.1 G (by omega)
  have a2 := n_held_Has e.2.2.2.2.2 G (by omega)
  have b1 := n_ref3_Has e.2.2.2.2.1 G hm
  have b2 := n_ref3_Has e.2.2.2.2.2 G hy
  have w1 := n_held_With e.2.2.2.2.1 G hm
  have w2 := n_held_With e.2.2.2.2.2 G hy
  have z1 := n_ref3_With e.2.2.2.2.1 G hm hM
  have z2 := n_ref3_With e.2.2.2.2.2 G hy hM
  have G1 : e.2.2.1.length < 9223372036854775807 := by omega
  have A1 : e.2.2.2.1.length < 9223372036854775807 := by omega
  cases k1 : tb e.2.2.2.2.1 G <;> cases k2 : tb e.2.2.2.2.2 G
  all_goals
    rw [k1] at a1 b1
    rw [k2] at a2 b2
    apply exO
    · simp only [F_9, G_held_Has, a1, a2, G_held_With, w1, w2, G_flow_deed_gains, g_flow_deed_gains, mg_flow_deed_gains_133_0_0 hm hE hn2 G1, mg_flow_deed_gains_133_0_0 hm hE hn2 A1, List.nil_append, List.length_nil, Nat.zero_add, List.length_set, limc V0, limc G0, limc A0, cond_true, cond_false, optC_some, Bool.not_true, Bool.not_false]
      rfl
    · (simp only [R_9, G_ref13_lock, g_ref13_lock, G_ref3_Has, b1, b2, G_ref3_With, z1, z2, mg_ref13_lock_77_0_0 hm hE hn2 G1, mg_ref13_lock_77_0_1 hm hE hn2 G1, mg_ref13_lock_77_2_0 hm hE hn2 A1, mg_ref13_lock_77_2_1 hm hE hn2 A1, show decide ((0 : Int) < ((0 : Nat) : Int)) = false from rfl, List.nil_append, List.length_nil, Nat.zero_add, List.length_set, limc V0, limc G0, limc A0, cond_true, cond_false, optC_some, Bool.not_true, Bool.not_false]) <;> rfl
    · refine ⟨⟨?_, ?_, ?_⟩, ⟨?_, ?_, ?_⟩, ?_, ?_, ?_⟩ <;> simp only [List.length_set, List.length_nil, List.length_cons, gmap, List.length_mapIdx] <;> omega
theorem do_10 (u : U) (t n : Int) (e : E) (l : List En) (c : C) (T X Y G N op nx el : Int) (h0 : 0 ≤ t) (hu : unitOK u) (hl : tabOK l) (hn : l.length ≤ 60) (he : envOK u t e) (hc : u.2.2.2[t.toNat]? = some c) (ha : actOK u c (10, T, X, Y, G, N, op, nx, el)) : ∃ o, bF u t n e l c (10, T, X, Y, G, N, op, nx, el) = some o ∧ bR u t n e l c (10, T, X, Y, G, N, op, nx, el) = some o ∧ smallO o := by
  obtain ⟨c', hc', hv⟩ := he.c
  obtain rfl : c' = c := by rw [hc] at hc'; exact (Option.some.inj hc').symm
  have cv := (hu.ts c' (List.mem_of_getElem? hc')).v
  have V0 : e.2.1.length ≤ 1000 := by omega
  have G0 : e.2.2.1.length ≤ 1000 := by rw [he.g]; have := hu.g; omega
  have A0 : e.2.2.2.1.length ≤ 1000 := by rw [he.a]; have := hu.a; omega
  have hE := hl.e
  have hm := he.must
  have hy := he.may
  have hn' : l.length < 9223372036854775807 := by omega
  have hn2 : l.length < 1000000000000 := by omega
  have hG : 0 ≤ G ∧ G < u.2.2.1 := inB_iff.1 ha.h4
  have hM : 0 ≤ G ∧ G < 31 := by have := hu.m; omega
  have a1 := n_held_Has e.2.2.2.2.1 G (by omega)
  have a2 := n_held_Has e.2.2.2.2.2 G (by omega)
  have b1 := n_ref3_Has e.2.2.2.2.1 G hm
  have b2 := n_ref3_Has e.2.2.2.2.2 G hy
  cases k1 : tb e.2.2.2.2.1 G <;> cases k2 : tb e.2.2.2.2.2 G
  all_goals
    rw [k1] at a1 b1
    rw [k2] at a2 b2
    apply exO
    · simp only [F_10, G_held_Has, a1, a2, G_held_Without, n_held_Without, List.nil_append, List.length_nil, Nat.zero_add, List.length_set, limc V0, limc G0, limc A0, cond_true, cond_false, optC_some, Bool.not_true, Bool.not_false]
      rfl
    · (simp only [R_10, G_ref13_unlock, g_ref13_unlock, G_ref3_Has, b1, b2, G_ref3_Without, n_ref3_Without _ _ hM, show decide ((0 : Int) < ((0 : Nat) : Int)) = false from rfl, List.nil_append, List.length_nil, Nat.zero_add, List.length_set, limc V0, limc G0, limc A0, cond_true, cond_false, optC_some, Bool.not_true, Bool.not_false]) <;> rfl
    · refine ⟨⟨?_, ?_, ?_⟩, ⟨?_, ?_, ?_⟩, ?_, ?_, ?_⟩ <;> simp only [List.length_set, List.length_nil, List.length_cons, gmap, List.length_mapIdx] <;> omega
theorem do_4 (u : U) (t n : Int) (e : E) (l : List En) (c : C) (T X Y G N op nx el : Int) (h0 : 0 ≤ t) (hu : unitOK u) (hl : tabOK l) (hn : l.length ≤ 60) (he : envOK u t e) (hc : u.2.2.2[t.toNat]? = some c) (ha : actOK u c (4, T, X, Y, G, N, op, nx, el)) : ∃ o, bF u t n e l c (4, T, X, Y, G, N, op, nx, el) = some o ∧ bR u t n e l c (4, T, X, Y, G, N, op, nx, el) = some o ∧ smallO o := by
  obtain ⟨c', hc', hv⟩ := he.c
  obtain rfl : c' = c := by rw [hc] at hc'; exact (Option.some.inj hc').symm
  have cv := (hu.ts c' (List.mem_of_getElem? hc')).v
  have V0 : e.2.1.length ≤ 1000 := by omega
  have G0 : e.2.2.1.length ≤ 1000 := by rw [he.g]; have := hu.g; omega
  have A0 : e.2.2.2.1.length ≤ 1000 := by rw [he.a]; have := hu.a; omega
  have hE := hl.e
  have hm := he.must
  have hy := he.may
  have hn' : l.length < 9223372036854775807 := by omega
  have hn2 : l.length < 1000000000000 := by omega
  have hT : 0 ≤ T ∧ T < c'.1 := inB_iff.1 ha.h1
  have eT : decide (0 ≤ T) = true := decide_eq_true hT.1
  have lT : T.toNat < e.2.1.length := by omega
  have hX : 0 ≤ X ∧ X < c'.1 := inB_iff.1 ha.h2
  have eX : decide (0 ≤ X) = true := decide_eq_true hX.1
  have lX : X.toNat < e.2.1.length := by omega
  have hY : 0 ≤ Y ∧ Y < c'.1 := inB_iff.1 ha.h3
  have eY : decide (0 ≤ Y) = true := decide_eq_true hY.1
  have lY : Y.toNat < e.2.1.length := by omega
  obtain ⟨x, gx⟩ := look_ex e.2.1 X (by omega)
  have vx := he.v x (List.mem_append_left _ (List.mem_append_left _ (List.mem_of_getElem? gx)))
  obtain ⟨y, gy⟩ := look_ex e.2.1 Y (by omega)
  have vy := he.v y (List.mem_append_left _ (List.mem_append_left _ (List.mem_of_getElem? gy)))
  have d1 := n_itv_Do op x y vx.1 vy.1
  have d2 := n_ref2_Do op x y vx.1 vy.1
  generalize doI op x y = r at d1 d2
  obtain ⟨z, o, w⟩ := r
  simp only at d1 d2
  cases o <;> cases w <;> cases k : decide (z.1 > z.2)
  all_goals
    apply exO
    · simp only [F_4, gx, gy, G_itv_Do, d1, k, List.nil_append, List.length_nil, Nat.zero_add, List.length_set, limc V0, limc G0, limc A0, cond_true, cond_false, optC_some, Bool.not_true, Bool.not_false, eT, eX, eY, look lT]
      rfl
    · (simp only [R_4, G_ref13_op, g_ref13_op, gx, gy, G_ref2_Do, d2, k, G_ref13_with, n_ref13_with e T z hT.1 (by omega) V0, eX, eY, show decide ((0 : Int) < ((0 : Nat) : Int)) = false from rfl, List.nil_append, List.length_nil, Nat.zero_add, List.length_set, limc V0, limc G0, limc A0, cond_true, cond_false, optC_some, Bool.not_true, Bool.not_false]) <;> rfl
    · refine ⟨⟨?_, ?_, ?_⟩, ⟨?_, ?_, ?_⟩, ?_, ?_, ?_⟩ <;> simp only [List.length_set, List.length_nil, List.length_cons] <;> omega
end Go.Proofs.Ytbdcblpjemmipaa.Ex

namespace Go.Proofs.Ytbdcblpjemmipaa.Ex
open Go.Proofs
set_option maxRecDepth 100000
set_option maxHeartbeats 2000000
set_option linter.unusedVariables false
set_option linter.unusedSimpArgs false
theorem do_7 (u : U) (t n : Int) (e : E) (l : List En) (c : C) (T X Y G N op nx el : Int) (h0 : 0 ≤ t) (hu : unitOK u) (hl : tabOK l) (hn : l.length ≤ 60) (he : envOK u t e) (hc : u.2.2.2[t.toNat]? = some c) (ha : actOK u c (7, T, X, Y, G, N, op, nx, el)) : ∃ o, bF u t n e l c (7, T, X, Y, G, N, op, nx, el) = some o ∧ bR u t n e l c (7, T, X, Y, G, N, op, nx, el) = some o ∧ smallO o := by
  obtain ⟨c', hc', hv⟩ := he.c
  obtain rfl : c' = c := by rw [hc] at hc'; exact (Option.some.inj hc').symm
  have cv := (hu.ts c' (List.mem_of_getElem? hc')).v
  have V0 : e.2.1.length ≤ 1000 := by omega
  have G0 : e.2.2.1.length ≤ 1000 := by rw [he.g]; have := hu.g; omega
  have A0 : e.2.2.2.1.length ≤ 1000 := by rw [he.a]; have := hu.a; omega
  have hE := hl.e
  have hm := he.must
  have hy := he.may
  have hn' : l.length < 9223372036854775807 := by omega
  have hn2 : l.length < 1000000000000 := by omega
  have hT : 0 ≤ T ∧ T < c'.1 := inB_iff.1 ha.h1
  have eT : decide (0 ≤ T) = true := decide_eq_true hT.1
  have lT : T.toNat < e.2.1.length := by omega
  have hX : 0 ≤ X ∧ X < c'.1 := inB_iff.1 ha.h2
  have eX : decide (0 ≤ X) = true := decide_eq_true hX.1
  have lX : X.toNat < e.2.1.length := by omega
  obtain ⟨x, gx⟩ := look_ex e.2.1 X (by omega)
  have vx := he.v x (List.mem_append_left _ (List.mem_append_left _ (List.mem_of_getElem? gx)))
  have hG : 0 ≤ G ∧ G < (u.2.1.length : Int) := inB_iff.1 ha.h4
  have eG : decide (0 ≤ G) = true := decide_eq_true hG.1
  have lG : G.toNat < e.2.2.2.1.length := by rw [he.a]; omega
  obtain ⟨gd, hgd⟩ := look_ex e.2.2.2.1 G (by rw [he.a]; omega)
  obtain ⟨m, gm⟩ := look_ex u.2.1 G hG
  have vm := hu.ars m (List.mem_of_getElem? gm)
  have hr : IntKind.i64.wrap (m - 1) = m - 1 := wrap_fits (by omega) (by omega)
  have r0 : empB (0, m - 1) = false := emp_no (by show (0 : Int) ≤ m - 1; omega)
  have rB : isB (0, m - 1) = true := by simp [isB, fitB]; omega
  have q1 := n_itv_Leq x (0, m - 1)
  have q2 := n_ref2_Leq x (0, m - 1)
  have q3 := n_itv_Meet x (0, m - 1)
  have q4 := n_ref2_Meet x (0, m - 1)
  rw [meet_span vx.2 r0] at q3
  have zB := mSpan_ok (y := x) (p := (0, m - 1)) vx.1 rB
  generalize mSpan x (0, m - 1) = z at q3 q4 zB
  have wx := n_ref13_with e X z hX.1 (by omega) V0
  have r1 := n_flow_Read u t (e.1, e.2.1.set X.toNat z, e.2.2) l true G gd hG.1 hgd hm hE hn'
  have r2 := n_ref13_Read t (e.1, e.2.1.set X.toNat z, e.2.2) l true G gd hG.1 hgd hm hE hn'
  have lT2 : T.toNat < (e.2.1.set X.toNat z).length := by rw [List.length_set]; exact lT
  have wz (v : I) : g_ref13_with (e.1, e.2.1.set X.toNat z, e.2.2) T v = some (e.1, (e.2.1.set X.toNat z).set T.toNat v, e.2.2) := n_ref13_with (e.1, e.2.1.set X.toNat z, e.2.2) T v hT.1 (by show T < ((e.2.1.set X.toNat z).length : Int); rw [List.length_set]; omega) (by show (e.2.1.set X.toNat z).length ≤ 1000; rw [List.length_set]; exact V0)
  cases k1 : leqB x (0, m - 1) <;> cases k2 : decide (z.1 > z.2)
  all_goals rw [k1] at q1 q2
  all_goals
    apply exO
    · simp only [F_7, gm, gx, hr, G_itv_Leq, q1, G_itv_Meet, q3, k2, G_flow_Read, r1, List.nil_append, List.length_nil, Nat.zero_add, List.length_set, limc V0, limc G0, limc A0, cond_true, cond_false, optC_some, Bool.not_true, Bool.not_false, eT, eX, eG, look lX, look lT2]
      rfl
    · (simp only [R_7, gm, gx, hr, G_ref2_Leq, q2, G_ref2_Meet, q4, k2, G_ref13_with, wx, wz, G_ref13_Read, r2, eX, eG, List.nil_append, List.length_nil, Nat.zero_add, List.length_set, limc V0, limc G0, limc A0, cond_true, cond_false, optC_some, Bool.not_true, Bool.not_false]) <;> rfl
    · refine ⟨⟨?_, ?_, ?_⟩, ⟨?_, ?_, ?_⟩, ?_, ?_, ?_⟩ <;> simp only [List.length_set, List.length_nil, List.length_cons, gmap, List.length_mapIdx] <;> omega
theorem do_8 (u : U) (t n : Int) (e : E) (l : List En) (c : C) (T X Y G N op nx el : Int) (h0 : 0 ≤ t) (hu : unitOK u) (hl : tabOK l) (hn : l.length ≤ 60) (he : envOK u t e) (hc : u.2.2.2[t.toNat]? = some c) (ha : actOK u c (8, T, X, Y, G, N, op, nx, el)) : ∃ o, bF u t n e l c (8, T, X, Y, G, N, op, nx, el) = some o ∧ bR u t n e l c (8, T, X, Y, G, N, op, nx, el) = some o ∧ smallO o := by
  obtain ⟨c', hc', hv⟩ := he.c
  obtain rfl : c' = c := by rw [hc] at hc'; exact (Option.some.inj hc').symm
  have cv := (hu.ts c' (List.mem_of_getElem? hc')).v
  have V0 : e.2.1.length ≤ 1000 := by omega
  have G0 : e.2.2.1.length ≤ 1000 := by rw [he.g]; have := hu.g; omega
  have A0 : e.2.2.2.1.length ≤ 1000 := by rw [he.a]; have := hu.a; omega
  have hE := hl.e
  have hm := he.must
  have hy := he.may
  have hn' : l.length < 9223372036854775807 := by omega
  have hn2 : l.length < 1000000000000 := by omega
  have hX : 0 ≤ X ∧ X < c'.1 := inB_iff.1 ha.h2
  have eX : decide (0 ≤ X) = true := decide_eq_true hX.1
  have lX : X.toNat < e.2.1.length := by omega
  have hY : 0 ≤ Y ∧ Y < c'.1 := inB_iff.1 ha.h3
  have eY : decide (0 ≤ Y) = true := decide_eq_true hY.1
  have lY : Y.toNat < e.2.1.length := by omega
  obtain ⟨x, gx⟩ := look_ex e.2.1 X (by omega)
  have vx := he.v x (List.mem_append_left _ (List.mem_append_left _ (List.mem_of_getElem? gx)))
  obtain ⟨y, gy⟩ := look_ex e.2.1 Y (by omega)
  have vy := he.v y (List.mem_append_left _ (List.mem_append_left _ (List.mem_of_getElem? gy)))
  have hG : 0 ≤ G ∧ G < (u.2.1.length : Int) := inB_iff.1 ha.h4
  have eG : decide (0 ≤ G) = true := decide_eq_true hG.1
  have lG : G.toNat < e.2.2.2.1.length := by rw [he.a]; omega
  obtain ⟨gd, hgd⟩ := look_ex e.2.2.2.1 G (by rw [he.a]; omega)
  obtain ⟨m, gm⟩ := look_ex u.2.1 G hG
  have vm := hu.ars m (List.mem_of_getElem? gm)
  have hr : IntKind.i64.wrap (m - 1) = m - 1 := wrap_fits (by omega) (by omega)
  have r0 : empB (0, m - 1) = false := emp_no (by show (0 : Int) ≤ m - 1; omega)
  have rB : isB (0, m - 1) = true := by simp [isB, fitB]; omega
  have q1 := n_itv_Leq x (0, m - 1)
  have q2 := n_ref2_Leq x (0, m - 1)
  have q3 := n_itv_Meet x (0, m - 1)
  have q4 := n_ref2_Meet x (0, m - 1)
  rw [meet_span vx.2 r0] at q3
  have zB := mSpan_ok (y := x) (p := (0, m - 1)) vx.1 rB
  generalize mSpan x (0, m - 1) = z at q3 q4 zB
  have wx := n_ref13_with e X z hX.1 (by omega) V0
  obtain ⟨y', gy'⟩ := look_ex (e.2.1.set X.toNat z) Y (by rw [List.length_set]; omega)
  cases k1 : leqB x (0, m - 1) <;> cases k2 : decide (z.1 > z.2)
  all_goals
    rw [k1] at q1 q2
    have yB : decide (z.1 > z.2) = false → isB y' = true := fun h => by
      rcases List.mem_or_eq_of_mem_set (List.mem_of_getElem? gy') with h1 | h1
      · exact (he.v y' (List.mem_append_left _ (List.mem_append_left _ h1))).1
      · rw [h1]; exact zB h
    have JE : (iJoin gd y' = rJoin gd y') ∨ decide (z.1 > z.2) = true := by
      cases h : decide (z.1 > z.2)
      · exact .inl (join_eq (yB h))
      · exact .inr rfl
    rw [k2] at JE
    simp only [Bool.true_eq_false, Bool.false_eq_true, or_false, or_true] at JE
  all_goals
    apply exO
    · simp only [F_8, gm, gx, gy, gy', hgd, hr, G_itv_Leq, q1, G_itv_Meet, q3, k2, G_itv_Join, n_itv_Join2, JE, List.nil_append, List.length_nil, Nat.zero_add, List.length_set, limc V0, limc G0, limc A0, cond_true, cond_false, optC_some, Bool.not_true, Bool.not_false, eY, eX, eG, look lX]
      rfl
    · (simp only [R_8, gm, gx, gy, gy', hgd, hr, G_ref2_Leq, q2, G_ref2_Meet, q4, k2, G_ref13_with, wx, G_ref2_Join, n_ref2_Join, eX, eY, eG, List.nil_append, List.length_nil, Nat.zero_add, List.length_set, limc V0, limc G0, limc A0, cond_true, cond_false, optC_some, Bool.not_true, Bool.not_false]) <;> rfl
    · refine ⟨⟨?_, ?_, ?_⟩, ⟨?_, ?_, ?_⟩, ?_, ?_, ?_⟩ <;> simp only [List.length_set, List.length_nil, List.length_cons, gmap, List.length_mapIdx] <;> omega
end Go.Proofs.Ytbdcblpjemmipaa.Ex

namespace Go.Proofs.Ytbdcblpjemmipaa.Ex
open Go.Proofs
set_option maxRecDepth 100000
set_option maxHeartbeats 2000000
set_option linter.unusedVariables false
set_option linter.unusedSimpArgs false
theorem do_11 (u : U) (t n : Int) (e : E) (l : List En) (c : C) (T X Y G N op nx el : Int) (h0 : 0 ≤ t) (hu : unitOK u) (hl : tabOK l) (hn : l.length ≤ 60) (he : envOK u t e) (hc : u.2.2.2[t.toNat]? = some c) (ha : actOK u c (11, T, X, Y, G, N, op, nx, el)) : ∃ o, bF u t n e l c (11, T, X, Y, G, N, op, nx, el) = some o ∧ bR u t n e l c (11, T, X, Y, G, N, op, nx, el) = some o ∧ smallO o := by
  obtain ⟨c', hc', hv⟩ := he.c
  obtain rfl : c' = c := by rw [hc] at hc'; exact (Option.some.inj hc').symm
  have cv := (hu.ts c' (List.mem_of_getElem? hc')).v
  have V0 : e.2.1.length ≤ 1000 := by omega
  have G0 : e.2.2.1.length ≤ 1000 := by rw [he.g]; have := hu.g; omega
  have A0 : e.2.2.2.1.length ≤ 1000 := by rw [he.a]; have := hu.a; omega
  have hE := hl.e
  have hm := he.must
  have hy := he.may
  have hn' : l.length < 9223372036854775807 := by omega
  have hn2 : l.length < 1000000000000 := by omega
  have hX : 0 ≤ X ∧ X < c'.1 := inB_iff.1 ha.h2
  have eX : decide (0 ≤ X) = true := decide_eq_true hX.1
  have lX : X.toNat < e.2.1.length := by omega
  have hY : 0 ≤ Y ∧ Y < c'.1 := inB_iff.1 ha.h3
  have eY : decide (0 ≤ Y) = true := decide_eq_true hY.1
  have lY : Y.toNat < e.2.1.length := by omega
  obtain ⟨x, gx⟩ := look_ex e.2.1 X (by omega)
  have vx := he.v x (List.mem_append_left _ (List.mem_append_left _ (List.mem_of_getElem? gx)))
  obtain ⟨y, gy⟩ := look_ex e.2.1 Y (by omega)
  have vy := he.v y (List.mem_append_left _ (List.mem_append_left _ (List.mem_of_getElem? gy)))
  obtain ⟨w, n1⟩ := not_ex op
  have n2 : g_ref1_Not op = some w := n1
  have f1 := n_itv_Refine op x y vx.1 vy.1
  have f2 := n_ref2_Refine op x y vx.1 vy.1
  have f3 := n_itv_Refine w x y vx.1 vy.1
  have f4 := n_ref2_Refine w x y vx.1 vy.1
  have p1 := ref_meet op x y
  have p3 := ref_meet w x y
  generalize refI op x y = a at f1 f2 p1
  generalize refI w x y = b at f3 f4 p3
  have m1 := n_itv_Meet a.1 a.2
  have m2 := n_ref2_Meet a.1 a.2
  have m3 := n_itv_Meet b.1 b.2
  have m4 := n_ref2_Meet b.1 b.2
  rw [p1] at m1
  rw [p3] at m3
  generalize mSpan a.1 a.2 = z at m1 m2
  generalize mSpan b.1 b.2 = o at m3 m4
  have lY2 (v : I) : Y.toNat < (e.2.1.set X.toNat v).length := by rw [List.length_set]; exact lY
  have w1 (v : I) := n_ref13_with e X v hX.1 (by omega) V0
  have w2 (v v' : I) : g_ref13_with (e.1, e.2.1.set X.toNat v, e.2.2) Y v' = some (e.1, (e.2.1.set X.toNat v).set Y.toNat v', e.2.2) := n_ref13_with (e.1, e.2.1.set X.toNat v, e.2.2) Y v' hY.1 (by show Y < ((e.2.1.set X.toNat v).length : Int); rw [List.length_set]; omega) (by show (e.2.1.set X.toNat v).length ≤ 1000; rw [List.length_set]; exact V0)
  cases kXY : X == Y
  · cases k1 : decide (a.1.1 > a.1.2) <;> cases k2 : decide (a.2.1 > a.2.2) <;> cases k3 : decide (b.1.1 > b.1.2) <;> cases k4 : decide (b.2.1 > b.2.2)
    all_goals
      apply exO
      · simp only [F_11, gx, gy, G_itv_Refine, f1, f3, G_num_Not, n1, G_itv_Meet, m1, m3, kXY, G_env_None, g_env_None, List.nil_append, List.length_nil, Nat.zero_add, List.length_set, limc V0, limc G0, limc A0, cond_true, cond_false, optC_some, Bool.not_true, Bool.not_false, eX, eY, look lX, look (lY2 _), k1, k2, k3, k4]
        rfl
      · (simp only [R_11, G_ref13_side, g_ref13_side, gx, gy, G_ref2_Refine, f2, f4, G_ref1_Not, n2, G_ref2_Meet, m2, m4, kXY, G_ref13_with, w1, w2, eX, eY, List.nil_append, List.length_nil, Nat.zero_add, List.length_set, limc V0, limc G0, limc A0, cond_true, cond_false, optC_some, Bool.not_true, Bool.not_false, k1, k2, k3, k4]) <;> rfl
      · refine ⟨⟨?_, ?_, ?_⟩, ⟨?_, ?_, ?_⟩, ?_, ?_, ?_⟩ <;> simp only [List.length_set, List.length_nil, List.length_cons] <;> omega
  · cases k1 : decide (z.1 > z.2) <;> cases k3 : decide (o.1 > o.2)
    all_goals
      apply exO
      · simp only [F_11, gx, gy, G_itv_Refine, f1, f3, G_num_Not, n1, G_itv_Meet, m1, m3, kXY, G_env_None, g_env_None, List.nil_append, List.length_nil, Nat.zero_add, List.length_set, limc V0, limc G0, limc A0, cond_true, cond_false, optC_some, Bool.not_true, Bool.not_false, eX, eY, look lX, look (lY2 _), k1, k3]
        rfl
      · (simp only [R_11, G_ref13_side, g_ref13_side, gx, gy, G_ref2_Refine, f2, f4, G_ref1_Not, n2, G_ref2_Meet, m2, m4, kXY, G_ref13_with, w1, w2, eX, eY, List.nil_append, List.length_nil, Nat.zero_add, List.length_set, limc V0, limc G0, limc A0, cond_true, cond_false, optC_some, Bool.not_true, Bool.not_false, k1, k3]) <;> rfl
      · refine ⟨⟨?_, ?_, ?_⟩, ⟨?_, ?_, ?_⟩, ?_, ?_, ?_⟩ <;> simp only [List.length_set, List.length_nil, List.length_cons] <;> omega
end Go.Proofs.Ytbdcblpjemmipaa.Ex

namespace Go.Proofs.Ytbdcblpjemmipaa.Ex
open Go.Proofs Go.Proofs.Ytbdcblpjemmipaa
set_option maxRecDepth 100000
set_option maxHeartbeats 2000000
set_option linter.unusedVariables false
set_option linter.unusedSimpArgs false
def ash_law13_known : List Sh := []
noncomputable def sp_law13_known : Nat → Option (List AV → Prog AV)
  | 101 => some (con_itv_Of)
  | 102 => some (con_itv_All)
  | 35 => some (con_flow_Read)
  | 110 => some (con_num_Not)
  | 136 => some (con_itv_Refine)
  | 132 => some (con_itv_Meet)
  | 92 => some (con_itv_Empty)
  | 137 => some (con_env_None)
  | 131 => some (con_slices_Clone_Itv)
  | 48 => some (con_held_Has)
  | 135 => some (con_held_Without)
  | 133 => some (con_flow_deed_gains)
  | 134 => some (con_held_With)
  | 61 => some (con_itv_Leq)
  | 55 => some (con_itv_Join)
  | 129 => some (con_itv_Do)
  | 73 => some (con_ref2_One)
  | _ => none
theorem hsp_law13_known : ∀ g p, sp_law13_known g = some p → SoundA Try.prog g p := by
  intro g p h
  unfold sp_law13_known at h
  split at h
  · cases h; exact snd_itv_Of
  · cases h; exact snd_itv_All
  · cases h; exact snd_flow_Read
  · cases h; exact snd_num_Not
  · cases h; exact snd_itv_Refine
  · cases h; exact snd_itv_Meet
  · cases h; exact snd_itv_Empty
  · cases h; exact snd_env_None
  · cases h; exact snd_slices_Clone_Itv
  · cases h; exact snd_held_Has
  · cases h; exact snd_held_Without
  · cases h; exact snd_flow_deed_gains
  · cases h; exact snd_held_With
  · cases h; exact snd_itv_Leq
  · cases h; exact snd_itv_Join
  · cases h; exact snd_itv_Do
  · cases h; exact snd_ref2_One
  · cases h
noncomputable def cx_law13_known : Ctx := { tab := tab, spec := sp_law13_known, inl := inl, lps := fun _ _ => none, fuel := 40 }
theorem in_law13_known : InlOk Try.prog cx_law13_known := ⟨inl_ok, fun _ _ _ _ _ _ _ _ h => nomatch h⟩
theorem cal_law13_known (g : Nat) : SoundA Try.prog g (evF cx_law13_known keeps 8 g) := evF_sound (tabOk_of tab_ok) (cmpsOk_of tab_ok cmps_ok) mixed in_law13_known hsp_law13_known keeps 8 g
noncomputable def g_law13_known  : Option Bool :=
  some !false
theorem raw_law13_known  : evGX cx_law13_known keeps 8 37 ash_law13_known (.dat .bool) (() : Unit) = g_law13_known  := by kernel_rfl
noncomputable def G_law13_known (x : Unit) : Option Bool := g_law13_known 
noncomputable def con_law13_known : List AV → Prog AV := conP true ash_law13_known (.dat .bool) G_law13_known
theorem snd_law13_known : SoundA Try.prog 37 con_law13_known := conP_sound (cal_law13_known 37) true (by rfl) (by rfl) (fun x r e => (evGX_eq _ _ _ _ _ _ _).trans ((raw_law13_known ).trans e)) (.inl rfl)
end Go.Proofs.Ytbdcblpjemmipaa.Ex

namespace Go.Proofs.Ytbdcblpjemmipaa.Ex
open Go.Proofs Go.Proofs.Ytbdcblpjemmipaa
set_option maxRecDepth 100000
set_option maxHeartbeats 2000000
set_option linter.unusedVariables false
set_option linter.unusedSimpArgs false
end Go.Proofs.Ytbdcblpjemmipaa.Ex

namespace Go.Proofs.Ytbdcblpjemmipaa.Ex
set_option linter.unusedSectionVars false
section
variable [RT]

theorem law_con {sh : List Sh} {G : ShDs sh → Option Bool} {args : List AV} {x : ShDs sh} (h1 : rds sh args = some x) (h2 : AV.idsL args = []) (h3 : G x = some true) :
    ∃ fb, ex ((conP true sh (.dat .bool) G args).bind (finP true)) false ⟨[], 0⟩ ⟨[], []⟩ = some (.bool true, ⟨[], 0⟩, fb) := by
  refine ⟨⟨[], []⟩, ?_⟩
  unfold ex conP
  rw [frzL_free true args _ h2, h1]
  simp only [Prog.bind, run, Option.bind_some]
  exact (congrArg (fun o => Option.bind o _) h3).trans (finP_free _ rfl _ _ _)
end
end Go.Proofs.Ytbdcblpjemmipaa.Ex

namespace Go.Proofs.Ytbdcblpjemmipaa.Ex
set_option maxRecDepth 100000
set_option linter.unusedVariables false
set_option linter.unusedSimpArgs false
theorem reach_lt : reachBytes < 9223372036854775807 := by decide
theorem size_l {e : Ty} {l : List (D e)} (h : DOkS reachBytes (.sl e) l) : List.length (α := D e) l < 9223372036854775807 := Nat.lt_of_le_of_lt h.1 reach_lt
theorem sizeU_of {u : U} (h : DOkS reachBytes tU u) : sizeU u :=
  ⟨Nat.lt_of_le_of_lt h.1.1 reach_lt, Nat.lt_of_le_of_lt h.2.1.1 reach_lt, Nat.lt_of_le_of_lt h.2.2.2.1 reach_lt, fun c hc => Nat.lt_of_le_of_lt (h.2.2.2.2 c hc).2.1 reach_lt⟩
end Go.Proofs.Ytbdcblpjemmipaa.Ex

namespace Go.Proofs.Ytbdcblpjemmipaa.Ex
open Go.Proofs Go.Proofs.Ytbdcblpjemmipaa
set_option maxRecDepth 100000
set_option maxHeartbeats 2000000
set_option linter.unusedVariables false
set_option linter.unusedSimpArgs false
def ash_law13_FlowDoes : List Sh := [.dat tU, .dat (.int .i64), .dat (.int .i64), .dat tE, .dat (.sl tEn), .dat (.int .i64)]
noncomputable def sp_law13_FlowDoes : Nat → Option (List AV → Prog AV)
  | 31 => some (con_law13_asked)
  | 33 => some (con_flow_Do)
  | 34 => some (con_ref13_Do)
  | 32 => some (con_law13_same)
  | 35 => some (con_flow_Read)
  | 36 => some (con_ref13_Read)
  | 37 => some (con_law13_known)
  | _ => none
theorem hsp_law13_FlowDoes : ∀ g p, sp_law13_FlowDoes g = some p → SoundA Try.prog g p := by
  intro g p h
  unfold sp_law13_FlowDoes at h
  split at h
  · cases h; exact snd_law13_asked
  · cases h; exact snd_flow_Do
  · cases h; exact snd_ref13_Do
  · cases h; exact snd_law13_same
  · cases h; exact snd_flow_Read
  · cases h; exact snd_ref13_Read
  · cases h; exact snd_law13_known
  · cases h
noncomputable def cx_law13_FlowDoes : Ctx := { tab := tab, spec := sp_law13_FlowDoes, inl := inl, lps := fun _ _ => none, fuel := 40 }
theorem in_law13_FlowDoes : InlOk Try.prog cx_law13_FlowDoes := ⟨inl_ok, fun _ _ _ _ _ _ _ _ h => nomatch h⟩
theorem cal_law13_FlowDoes (g : Nat) : SoundA Try.prog g (evF cx_law13_FlowDoes keeps 8 g) := evF_sound (tabOk_of tab_ok) (cmpsOk_of tab_ok cmps_ok) mixed in_law13_FlowDoes hsp_law13_FlowDoes keeps 8 g
noncomputable def g_law13_FlowDoes (a0 : U) (a1 : Int) (a2 : Int) (a3 : E) (a4 : (List En)) (a5 : Int) : Option Bool :=
  optC (G_law13_asked (a0, a1, a3, a4, ())) none fun d7 ↦
 bif !d7 then some true
 else
 bif decide (a2 < 0) then some true
 else
 bif decide (0 ≤ a1) then
 optC a0.2.2.2[a1.toNat]? none fun d8 ↦
 bif decide (a2 ≥ (↑(List.length d8.2) : Int)) then some true
 else
 optC (G_flow_Do (a0, a1, a2, a3, a4, ())) none fun d9 ↦
 optC (G_ref13_Do (a0, a1, a2, a3, a4, ())) none fun d10 ↦
 optC (G_law13_same (d9, d10, ())) none fun d11 ↦
 bif !d11 then some false
 else
 bif a3.1 then
 bif decide (a5 ≥ 0) then
 bif decide (a5 < (↑(List.length a0.1) : Int)) then
 optC (G_flow_Read (a0, a1, a3, a4, false, a5, ())) none fun d12 ↦
 optC (G_ref13_Read (a1, a3, a4, false, a5, ())) none fun d13 ↦
 bif !(d12.1 == d13.1 && d12.2 == d13.2) then some false
 else
 bif a3.1 then
 bif decide (a5 ≥ 0) then
 bif decide (a5 < (↑(List.length a0.2.1) : Int)) then
 optC (G_flow_Read (a0, a1, a3, a4, true, a5, ())) none fun d14 ↦
 optC (G_ref13_Read (a1, a3, a4, true, a5, ())) none fun d15 ↦
 bif !(d14.1 == d15.1 && d14.2 == d15.2) then some false else some !false
 else some !false
 else some !false
 else some !false
 else
 bif a3.1 then
 bif decide (a5 ≥ 0) then
 bif decide (a5 < (↑(List.length a0.2.1) : Int)) then
 optC (G_flow_Read (a0, a1, a3, a4, true, a5, ())) none fun d12 ↦
 optC (G_ref13_Read (a1, a3, a4, true, a5, ())) none fun d13 ↦
 bif !(d12.1 == d13.1 && d12.2 == d13.2) then some false else some !false
 else some !false
 else some !false
 else some !false
 else
 bif a3.1 then
 bif decide (a5 ≥ 0) then
 bif decide (a5 < (↑(List.length a0.2.1) : Int)) then
 optC (G_flow_Read (a0, a1, a3, a4, true, a5, ())) none fun d12 ↦
 optC (G_ref13_Read (a1, a3, a4, true, a5, ())) none fun d13 ↦
 bif !(d12.1 == d13.1 && d12.2 == d13.2) then some false else some !false
 else some !false
 else some !false
 else some !false
 else
 bif a3.1 then
 bif decide (a5 ≥ 0) then
 bif decide (a5 < (↑(List.length a0.2.1) : Int)) then
 optC (G_flow_Read (a0, a1, a3, a4, true, a5, ())) none fun d12 ↦
 optC (G_ref13_Read (a1, a3, a4, true, a5, ())) none fun d13 ↦
 bif !(d12.1 == d13.1 && d12.2 == d13.2) then some false else some !false
 else some !false
 else some !false
 else some !false
 else none
theorem raw_law13_FlowDoes (a0 : U) (a1 : Int) (a2 : Int) (a3 : E) (a4 : (List En)) (a5 : Int) : evGX cx_law13_FlowDoes keeps 8 8 ash_law13_FlowDoes (.dat .bool) ((a0, a1, a2, a3, a4, a5, ()) : (U × (Int × (Int × (E × ((List En) × (Int × Unit))))))) = g_law13_FlowDoes a0 a1 a2 a3 a4 a5 := by kernel_rfl
noncomputable def G_law13_FlowDoes (x : (U × (Int × (Int × (E × ((List En) × (Int × Unit))))))) : Option Bool := g_law13_FlowDoes x.1 x.2.1 x.2.2.1 x.2.2.2.1 x.2.2.2.2.1 x.2.2.2.2.2.1
noncomputable def con_law13_FlowDoes : List AV → Prog AV := conP true ash_law13_FlowDoes (.dat .bool) G_law13_FlowDoes
theorem snd_law13_FlowDoes : SoundA Try.prog 8 con_law13_FlowDoes := conP_sound (cal_law13_FlowDoes 8) true (by rfl) (by rfl) (fun x r e => (evGX_eq _ _ _ _ _ _ _).trans ((raw_law13_FlowDoes x.1 x.2.1 x.2.2.1 x.2.2.2.1 x.2.2.2.2.1 x.2.2.2.2.2.1).trans e)) (.inl rfl)
end Go.Proofs.Ytbdcblpjemmipaa.Ex

namespace Go.Proofs.Ytbdcblpjemmipaa.Ex
open Go.Proofs
set_option maxRecDepth 100000
set_option maxHeartbeats 2000000
set_option linter.unusedVariables false
set_option linter.unusedSimpArgs false
theorem do_eq (u : U) (t n : Int) (e : E) (l : List En) (hq : askedOK u t e l) (hn : 0 ≤ n) (c : C) (hc : u.2.2.2[t.toNat]? = some c) (h2 : n < (c.2.length : Int)) :
    ∃ o, g_flow_Do u t n e l = some o ∧ g_ref13_Do u t n e l = some o ∧ smallO o := by
  obtain ⟨a, ga⟩ := look_ex c.2 n ⟨hn, h2⟩
  cases he : e.1
  · obtain ⟨on, V, G, A, must, may⟩ := e
    cases he
    have e0 : decide (0 ≤ t) = true := decide_eq_true hq.ht.1
    have e1 : decide (0 ≤ n) = true := decide_eq_true hn
    refine ⟨((Bool.false, [], [], [], 0, 0), (Bool.false, [], [], [], 0, 0), [], [], []), ?_, rfl, ⟨⟨by decide, by decide, by decide⟩, ⟨by decide, by decide, by decide⟩, by decide, by decide, by decide⟩⟩
    unfold g_flow_Do
    rw [e0, hc, e1, cond_true, optC_some, cond_true, ga, optC_some]
    rfl
  have hE := hq.he he
  have ha := (hq.hu.ts c (List.mem_of_getElem? hc)).a a (List.mem_of_getElem? ga)
  rw [bF_at u t n e l c a hq.ht.1 hc hn ga he, bR_at u t n e l c a hq.ht.1 hc hn ga he]
  obtain ⟨k, T, X, Y, G, N, op, nx, el⟩ := a
  have k1 : 1 ≤ k := ha.k1
  have k2 : k ≤ 14 := ha.k2
  have hk : k = 1 ∨ k = 2 ∨ k = 3 ∨ k = 4 ∨ k = 5 ∨ k = 6 ∨ k = 7 ∨ k = 8 ∨ k = 9 ∨ k = 10 ∨ k = 11 ∨ k = 12 ∨ k = 13 ∨ k = 14 := by omega
  rcases hk with rfl | rfl | rfl | rfl | rfl | rfl | rfl | rfl | rfl | rfl | rfl | rfl | rfl | rfl
  · exact do_1 u t n e l c T X Y G N op nx el hq.ht.1 hq.hu hq.hl hq.hn hE hc ha
  · exact do_2 u t n e l c T X Y G N op nx el hq.ht.1 hq.hu hq.hl hq.hn hE hc ha
  · exact do_3 u t n e l c T X Y G N op nx el hq.ht.1 hq.hu hq.hl hq.hn hE hc ha
  · exact do_4 u t n e l c T X Y G N op nx el hq.ht.1 hq.hu hq.hl hq.hn hE hc ha
  · exact do_5 u t n e l c T X Y G N op nx el hq.ht.1 hq.hu hq.hl hq.hn hE hc ha
  · exact do_6 u t n e l c T X Y G N op nx el hq.ht.1 hq.hu hq.hl hq.hn hE hc ha
  · exact do_7 u t n e l c T X Y G N op nx el hq.ht.1 hq.hu hq.hl hq.hn hE hc ha
  · exact do_8 u t n e l c T X Y G N op nx el hq.ht.1 hq.hu hq.hl hq.hn hE hc ha
  · exact do_9 u t n e l c T X Y G N op nx el hq.ht.1 hq.hu hq.hl hq.hn hE hc ha
  · exact do_10 u t n e l c T X Y G N op nx el hq.ht.1 hq.hu hq.hl hq.hn hE hc ha
  · exact do_11 u t n e l c T X Y G N op nx el hq.ht.1 hq.hu hq.hl hq.hn hE hc ha
  · exact do_12 u t n e l c T X Y G N op nx el hq.ht.1 hq.hu hq.hl hq.hn hE hc ha
  · exact do_13 u t n e l c T X Y G N op nx el hq.ht.1 hq.hu hq.hl hq.hn hE hc ha
  · exact do_14 u t n e l c T X Y G N op nx el hq.ht.1 hq.hu hq.hl hq.hn hE hc ha
theorem flowDoes (u : U) (t n : Int) (e : E) (l : List En) (g : Int) (hs : sizeU u) (hl : l.length < 9223372036854775807) : g_law13_FlowDoes u t n e l g = some true := by
  unfold g_law13_FlowDoes G_law13_asked
  obtain ⟨b, hb, hk⟩ := n_law13_asked u t e l hs hl
  simp only [hb, optC_some]
  cases b
  · rfl
  have hq := hk rfl
  by_cases h1 : n < 0
  · rw [decide_eq_true h1]; rfl
  obtain ⟨c, hc⟩ := look_ex u.2.2.2 t hq.ht
  have eT : decide (0 ≤ t) = true := decide_eq_true hq.ht.1
  by_cases h2 : n ≥ (c.2.length : Int)
  · rw [decide_eq_false h1, eT, hc]; simp only [optC_some, cond_true, cond_false, Bool.not_true]; rw [decide_eq_true h2]; rfl
  obtain ⟨o, o1, o2, o3⟩ := do_eq u t n e l hq (by omega) c hc (by omega)
  have o4 := same_refl o o3
  have rd : ∀ ar : Bool, e.1 = true → 0 ≤ g → g < ((if ar then e.2.2.2.1 else e.2.2.1).length : Int) → ∃ v, g_flow_Read u t e l ar g = some v ∧ g_ref13_Read t e l ar g = some v := fun ar he h0 hg => by
    obtain ⟨d, hd⟩ := look_ex _ g ⟨h0, hg⟩
    exact ⟨_, n_flow_Read u t e l ar g d h0 hd (hq.he he).must hq.hl.e hl, n_ref13_Read t e l ar g d h0 hd (hq.he he).must hq.hl.e hl⟩
  simp only [decide_eq_false h1, eT, hc, decide_eq_false h2, G_flow_Do, G_ref13_Do, G_law13_same, o1, o2, o4, optC_some, cond_true, cond_false, Bool.not_true]
  cases he : e.1
  · rfl
  have hE := hq.he he
  by_cases h3 : g ≥ 0
  case neg => rw [decide_eq_false h3]; rfl
  rw [decide_eq_true h3]
  have rG : ∀ h : g < (u.1.length : Int), _ := fun h => rd false he h3 (by show g < (e.2.2.1.length : Int); rw [hE.g]; exact h)
  have rA : ∀ h : g < (u.2.1.length : Int), _ := fun h => rd true he h3 (by show g < (e.2.2.2.1.length : Int); rw [hE.a]; exact h)
  by_cases h4 : g < (u.1.length : Int)
  · obtain ⟨v, v1, v2⟩ := rG h4
    by_cases h5 : g < (u.2.1.length : Int)
    · obtain ⟨w, w1, w2⟩ := rA h5
      simp only [decide_eq_true h4, decide_eq_true h5, cond_true, cond_false, G_flow_Read, G_ref13_Read, v1, v2, w1, w2, optC_some, beq_self_eq_true, Bool.and_self, Bool.not_true, Bool.not_false]
    · simp only [decide_eq_true h4, decide_eq_false h5, cond_true, cond_false, G_flow_Read, G_ref13_Read, v1, v2, optC_some, beq_self_eq_true, Bool.and_self, Bool.not_true, Bool.not_false]
  · by_cases h5 : g < (u.2.1.length : Int)
    · obtain ⟨w, w1, w2⟩ := rA h5
      simp only [decide_eq_false h4, decide_eq_true h5, cond_true, cond_false, G_flow_Read, G_ref13_Read, w1, w2, optC_some, beq_self_eq_true, Bool.and_self, Bool.not_true, Bool.not_false]
    · simp only [decide_eq_false h4, decide_eq_false h5, cond_true, cond_false, Bool.not_false]
end Go.Proofs.Ytbdcblpjemmipaa.Ex

