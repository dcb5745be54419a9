/-
  No cell of these rows narrows 'for every input' (looked for: loops, veiled, ifaces, maps, wideKeys, modest, calm, conditions, laid).
  DERIVED. THE GIVEN ROWS OF THIS SEAT. 14 by the template 'for every input the law returns true; each argument reads behind the call as it read before'; 0 by the template 'total and deterministic' (their statements: YtbdcblpjemmipaaGreatTotals.lean).
  GIVEN WITH THE SEED: the statements are not yours to turn. If you find one false, say at which input.
  Laid BY PROGRAM, IN A SANDBOX (cutbox-rows.mjs): the forced cells as the released guide's own fill.sh prints them over the translation a0e3310c8ae89e8e… (all of the seat's roots in one cut). By AI agents, Wed Nov 11 2026. No macro, syntax, notation, axiom, sorry.
-/
import Derived.Test.YtbdcblpjemmipaaGreatChecked
import GoSem.Claim
import GoSem.ClaimJoined
import GoSem.ClaimMapViews
import Derived.JoinedTies
import Derived.KernelRfl
namespace Go.Proofs.YtbdcblpjemmipaaGreat
/- THE CELL 'sum', in the pinned program and in every row, IS THE sha256 OF THE DUMP (.gsa) THAT YtbdcblpjemmipaaGreatProg.lean LOADS. Nothing in Lean hashes anything: it is a label: what it is worth is what the hold of that sum in a sandbox is worth. -/
noncomputable def Tryz.pinned : Pinned := { name := "ytbdcblpjemmipaagreat", sum := "a0e3310c8ae89e8e368e386d76bcf900dbceeaa3952c907f0e51868e76a79f71", checked := Tryz.checked }
namespace Rows
def none {H : Type} : Left H := { results := [], args := [] }

/-- 'meddlerlaw16.OuterHides': WHATEVER THE INPUT: true; the input reads as it did. -/
def outerHidesSpec : ChangeSpec := { name := "outerHides", fn := fun _ => fun
  | [d1, d2, d3, d4] => { results := [.lit (.bool true)], args := [d1, d2, d3, d4] }
  | _ => none }
def outerHidesRow : OpenClaim := { program := "ytbdcblpjemmipaagreat", sum := "a0e3310c8ae89e8e368e386d76bcf900dbceeaa3952c907f0e51868e76a79f71", func := "meddler/meddlerlaw16.OuterHides", spec := "outerHides", inPlace := ["slices.overlaps[meddler/api.Entry]"], unfollowed := true, recurses := true, apart := false }
def OuterHidesSaid : Prop := outerHidesRow.holds Tryz.pinned (OpenSpec.ofChange outerHidesSpec)

/-- ITS FALSE NEIGHBOUR: 'it returns false'. Refute it at one input. -/
def outerHidesWrong : ChangeSpec := { name := "outerHides", fn := fun _ => fun
  | [d1, d2, d3, d4] => { results := [.lit (.bool false)], args := [d1, d2, d3, d4] }
  | _ => none }
def OuterHidesWrongFalsely : Prop := outerHidesRow.holds Tryz.pinned (OpenSpec.ofChange outerHidesWrong)

/-- 'meddlerlaw16.OuterRises': WHATEVER THE INPUT: true; the input reads as it did. -/
def outerRisesSpec : ChangeSpec := { name := "outerRises", fn := fun _ => fun
  | [d] => { results := [.lit (.bool true)], args := [d] }
  | _ => none }
def outerRisesRow : OpenClaim := { program := "ytbdcblpjemmipaagreat", sum := "a0e3310c8ae89e8e368e386d76bcf900dbceeaa3952c907f0e51868e76a79f71", func := "meddler/meddlerlaw16.OuterRises", spec := "outerRises", inPlace := ["slices.overlaps[meddler/api.Entry]"], unfollowed := true, recurses := true, apart := false }
def OuterRisesSaid : Prop := outerRisesRow.holds Tryz.pinned (OpenSpec.ofChange outerRisesSpec)

/-- ITS FALSE NEIGHBOUR: 'it returns false'. Refute it at one input. -/
def outerRisesWrong : ChangeSpec := { name := "outerRises", fn := fun _ => fun
  | [d] => { results := [.lit (.bool false)], args := [d] }
  | _ => none }
def OuterRisesWrongFalsely : Prop := outerRisesRow.holds Tryz.pinned (OpenSpec.ofChange outerRisesWrong)

/-- 'meddlerlaw14.FixRuns': WHATEVER THE INPUT: true; the input reads as it did. -/
def fixRunsSpec : ChangeSpec := { name := "fixRuns", fn := fun _ => fun
  | [d1, d2, d3] => { results := [.lit (.bool true)], args := [d1, d2, d3] }
  | _ => none }
def fixRunsRow : OpenClaim := { program := "ytbdcblpjemmipaagreat", sum := "a0e3310c8ae89e8e368e386d76bcf900dbceeaa3952c907f0e51868e76a79f71", func := "meddler/meddlerlaw14.FixRuns", spec := "fixRuns", inPlace := ["slices.overlaps[meddler/api.Entry]"], unfollowed := true, recurses := true, apart := false }
def FixRunsSaid : Prop := fixRunsRow.holds Tryz.pinned (OpenSpec.ofChange fixRunsSpec)

/-- ITS FALSE NEIGHBOUR: 'it returns false'. Refute it at one input. -/
def fixRunsWrong : ChangeSpec := { name := "fixRuns", fn := fun _ => fun
  | [d1, d2, d3] => { results := [.lit (.bool false)], args := [d1, d2, d3] }
  | _ => none }
def FixRunsWrongFalsely : Prop := fixRunsRow.holds Tryz.pinned (OpenSpec.ofChange fixRunsWrong)

/-- 'meddlerlaw14.FixMore': WHATEVER THE INPUT: true; the input reads as it did. -/
def fixMoreSpec : ChangeSpec := { name := "fixMore", fn := fun _ => fun
  | [d1, d2, d3, d4] => { results := [.lit (.bool true)], args := [d1, d2, d3, d4] }
  | _ => none }
def fixMoreRow : OpenClaim := { program := "ytbdcblpjemmipaagreat", sum := "a0e3310c8ae89e8e368e386d76bcf900dbceeaa3952c907f0e51868e76a79f71", func := "meddler/meddlerlaw14.FixMore", spec := "fixMore", inPlace := ["slices.overlaps[meddler/api.Entry]"], unfollowed := true, recurses := true, apart := false }
def FixMoreSaid : Prop := fixMoreRow.holds Tryz.pinned (OpenSpec.ofChange fixMoreSpec)

/-- ITS FALSE NEIGHBOUR: 'it returns false'. Refute it at one input. -/
def fixMoreWrong : ChangeSpec := { name := "fixMore", fn := fun _ => fun
  | [d1, d2, d3, d4] => { results := [.lit (.bool false)], args := [d1, d2, d3, d4] }
  | _ => none }
def FixMoreWrongFalsely : Prop := fixMoreRow.holds Tryz.pinned (OpenSpec.ofChange fixMoreWrong)

/-- 'meddlerlaw14.FixTells': WHATEVER THE INPUT: true; the input reads as it did. -/
def fixTellsSpec : ChangeSpec := { name := "fixTells", fn := fun _ => fun
  | [d1, d2, d3] => { results := [.lit (.bool true)], args := [d1, d2, d3] }
  | _ => none }
def fixTellsRow : OpenClaim := { program := "ytbdcblpjemmipaagreat", sum := "a0e3310c8ae89e8e368e386d76bcf900dbceeaa3952c907f0e51868e76a79f71", func := "meddler/meddlerlaw14.FixTells", spec := "fixTells", inPlace := ["slices.overlaps[meddler/api.Entry]"], unfollowed := true, recurses := true, apart := false }
def FixTellsSaid : Prop := fixTellsRow.holds Tryz.pinned (OpenSpec.ofChange fixTellsSpec)

/-- ITS FALSE NEIGHBOUR: 'it returns false'. Refute it at one input. -/
def fixTellsWrong : ChangeSpec := { name := "fixTells", fn := fun _ => fun
  | [d1, d2, d3] => { results := [.lit (.bool false)], args := [d1, d2, d3] }
  | _ => none }
def FixTellsWrongFalsely : Prop := fixTellsRow.holds Tryz.pinned (OpenSpec.ofChange fixTellsWrong)

/-- 'meddlerlaw14.FixLine': WHATEVER THE INPUT: true; the input reads as it did. -/
def fixLineSpec : ChangeSpec := { name := "fixLine", fn := fun _ => fun
  | [d1, d2, d3] => { results := [.lit (.bool true)], args := [d1, d2, d3] }
  | _ => none }
def fixLineRow : OpenClaim := { program := "ytbdcblpjemmipaagreat", sum := "a0e3310c8ae89e8e368e386d76bcf900dbceeaa3952c907f0e51868e76a79f71", func := "meddler/meddlerlaw14.FixLine", spec := "fixLine", inPlace := ["slices.overlaps[meddler/api.Entry]"], unfollowed := true, recurses := true, apart := false }
def FixLineSaid : Prop := fixLineRow.holds Tryz.pinned (OpenSpec.ofChange fixLineSpec)

/-- ITS FALSE NEIGHBOUR: 'it returns false'. Refute it at one input. -/
def fixLineWrong : ChangeSpec := { name := "fixLine", fn := fun _ => fun
  | [d1, d2, d3] => { results := [.lit (.bool false)], args := [d1, d2, d3] }
  | _ => none }
def FixLineWrongFalsely : Prop := fixLineRow.holds Tryz.pinned (OpenSpec.ofChange fixLineWrong)

/-- 'meddlerlaw14.FixLoops': WHATEVER THE INPUT: true; the input reads as it did. -/
def fixLoopsSpec : ChangeSpec := { name := "fixLoops", fn := fun _ => fun
  | [d] => { results := [.lit (.bool true)], args := [d] }
  | _ => none }
def fixLoopsRow : OpenClaim := { program := "ytbdcblpjemmipaagreat", sum := "a0e3310c8ae89e8e368e386d76bcf900dbceeaa3952c907f0e51868e76a79f71", func := "meddler/meddlerlaw14.FixLoops", spec := "fixLoops", inPlace := ["slices.overlaps[meddler/api.Entry]"], unfollowed := true, recurses := true, apart := false }
def FixLoopsSaid : Prop := fixLoopsRow.holds Tryz.pinned (OpenSpec.ofChange fixLoopsSpec)

/-- ITS FALSE NEIGHBOUR: 'it returns false'. Refute it at one input. -/
def fixLoopsWrong : ChangeSpec := { name := "fixLoops", fn := fun _ => fun
  | [d] => { results := [.lit (.bool false)], args := [d] }
  | _ => none }
def FixLoopsWrongFalsely : Prop := fixLoopsRow.holds Tryz.pinned (OpenSpec.ofChange fixLoopsWrong)

/-- 'meddlerlaw14.FixNever': WHATEVER THE INPUT: true; the input reads as it did. -/
def fixNeverSpec : ChangeSpec := { name := "fixNever", fn := fun _ => fun
  | [d1, d2, d3] => { results := [.lit (.bool true)], args := [d1, d2, d3] }
  | _ => none }
def fixNeverRow : OpenClaim := { program := "ytbdcblpjemmipaagreat", sum := "a0e3310c8ae89e8e368e386d76bcf900dbceeaa3952c907f0e51868e76a79f71", func := "meddler/meddlerlaw14.FixNever", spec := "fixNever", inPlace := ["slices.overlaps[meddler/api.Entry]"], unfollowed := true, recurses := true, apart := false }
def FixNeverSaid : Prop := fixNeverRow.holds Tryz.pinned (OpenSpec.ofChange fixNeverSpec)

/-- ITS FALSE NEIGHBOUR: 'it returns false'. Refute it at one input. -/
def fixNeverWrong : ChangeSpec := { name := "fixNever", fn := fun _ => fun
  | [d1, d2, d3] => { results := [.lit (.bool false)], args := [d1, d2, d3] }
  | _ => none }
def FixNeverWrongFalsely : Prop := fixNeverRow.holds Tryz.pinned (OpenSpec.ofChange fixNeverWrong)

/-- 'meddlerlaw14.FixClosed': WHATEVER THE INPUT: true; the input reads as it did. -/
def fixClosedSpec : ChangeSpec := { name := "fixClosed", fn := fun _ => fun
  | [d1, d2, d3, d4] => { results := [.lit (.bool true)], args := [d1, d2, d3, d4] }
  | _ => none }
def fixClosedRow : OpenClaim := { program := "ytbdcblpjemmipaagreat", sum := "a0e3310c8ae89e8e368e386d76bcf900dbceeaa3952c907f0e51868e76a79f71", func := "meddler/meddlerlaw14.FixClosed", spec := "fixClosed", inPlace := ["slices.overlaps[meddler/api.Entry]"], unfollowed := true, recurses := true, apart := false }
def FixClosedSaid : Prop := fixClosedRow.holds Tryz.pinned (OpenSpec.ofChange fixClosedSpec)

/-- ITS FALSE NEIGHBOUR: 'it returns false'. Refute it at one input. -/
def fixClosedWrong : ChangeSpec := { name := "fixClosed", fn := fun _ => fun
  | [d1, d2, d3, d4] => { results := [.lit (.bool false)], args := [d1, d2, d3, d4] }
  | _ => none }
def FixClosedWrongFalsely : Prop := fixClosedRow.holds Tryz.pinned (OpenSpec.ofChange fixClosedWrong)

/-- 'meddlerlaw14.FixRounds': WHATEVER THE INPUT: true; the input reads as it did. -/
def fixRoundsSpec : ChangeSpec := { name := "fixRounds", fn := fun _ => fun
  | [d1, d2, d3] => { results := [.lit (.bool true)], args := [d1, d2, d3] }
  | _ => none }
def fixRoundsRow : OpenClaim := { program := "ytbdcblpjemmipaagreat", sum := "a0e3310c8ae89e8e368e386d76bcf900dbceeaa3952c907f0e51868e76a79f71", func := "meddler/meddlerlaw14.FixRounds", spec := "fixRounds", inPlace := ["slices.overlaps[meddler/api.Entry]"], unfollowed := true, recurses := true, apart := false }
def FixRoundsSaid : Prop := fixRoundsRow.holds Tryz.pinned (OpenSpec.ofChange fixRoundsSpec)

/-- ITS FALSE NEIGHBOUR: 'it returns false'. Refute it at one input. -/
def fixRoundsWrong : ChangeSpec := { name := "fixRounds", fn := fun _ => fun
  | [d1, d2, d3] => { results := [.lit (.bool false)], args := [d1, d2, d3] }
  | _ => none }
def FixRoundsWrongFalsely : Prop := fixRoundsRow.holds Tryz.pinned (OpenSpec.ofChange fixRoundsWrong)

/-- 'meddlerlaw16.OuterRuns': WHATEVER THE INPUT: true; the input reads as it did. -/
def outerRunsSpec : ChangeSpec := { name := "outerRuns", fn := fun _ => fun
  | [d] => { results := [.lit (.bool true)], args := [d] }
  | _ => none }
def outerRunsRow : OpenClaim := { program := "ytbdcblpjemmipaagreat", sum := "a0e3310c8ae89e8e368e386d76bcf900dbceeaa3952c907f0e51868e76a79f71", func := "meddler/meddlerlaw16.OuterRuns", spec := "outerRuns", inPlace := ["slices.overlaps[meddler/api.Entry]"], unfollowed := true, recurses := true, apart := false }
def OuterRunsSaid : Prop := outerRunsRow.holds Tryz.pinned (OpenSpec.ofChange outerRunsSpec)

/-- ITS FALSE NEIGHBOUR: 'it returns false'. Refute it at one input. -/
def outerRunsWrong : ChangeSpec := { name := "outerRuns", fn := fun _ => fun
  | [d] => { results := [.lit (.bool false)], args := [d] }
  | _ => none }
def OuterRunsWrongFalsely : Prop := outerRunsRow.holds Tryz.pinned (OpenSpec.ofChange outerRunsWrong)

/-- 'meddlerlaw16.OuterStores': WHATEVER THE INPUT: true; the input reads as it did. -/
def outerStoresSpec : ChangeSpec := { name := "outerStores", fn := fun _ => fun
  | [d] => { results := [.lit (.bool true)], args := [d] }
  | _ => none }
def outerStoresRow : OpenClaim := { program := "ytbdcblpjemmipaagreat", sum := "a0e3310c8ae89e8e368e386d76bcf900dbceeaa3952c907f0e51868e76a79f71", func := "meddler/meddlerlaw16.OuterStores", spec := "outerStores", inPlace := ["slices.overlaps[meddler/api.Entry]"], unfollowed := true, recurses := true, apart := false }
def OuterStoresSaid : Prop := outerStoresRow.holds Tryz.pinned (OpenSpec.ofChange outerStoresSpec)

/-- ITS FALSE NEIGHBOUR: 'it returns false'. Refute it at one input. -/
def outerStoresWrong : ChangeSpec := { name := "outerStores", fn := fun _ => fun
  | [d] => { results := [.lit (.bool false)], args := [d] }
  | _ => none }
def OuterStoresWrongFalsely : Prop := outerStoresRow.holds Tryz.pinned (OpenSpec.ofChange outerStoresWrong)

/-- 'meddlerlaw16.OuterAlone': WHATEVER THE INPUT: true; the input reads as it did. -/
def outerAloneSpec : ChangeSpec := { name := "outerAlone", fn := fun _ => fun
  | [d1, d2] => { results := [.lit (.bool true)], args := [d1, d2] }
  | _ => none }
def outerAloneRow : OpenClaim := { program := "ytbdcblpjemmipaagreat", sum := "a0e3310c8ae89e8e368e386d76bcf900dbceeaa3952c907f0e51868e76a79f71", func := "meddler/meddlerlaw16.OuterAlone", spec := "outerAlone", inPlace := ["slices.overlaps[meddler/api.Entry]"], unfollowed := true, recurses := true, apart := false }
def OuterAloneSaid : Prop := outerAloneRow.holds Tryz.pinned (OpenSpec.ofChange outerAloneSpec)

/-- ITS FALSE NEIGHBOUR: 'it returns false'. Refute it at one input. -/
def outerAloneWrong : ChangeSpec := { name := "outerAlone", fn := fun _ => fun
  | [d1, d2] => { results := [.lit (.bool false)], args := [d1, d2] }
  | _ => none }
def OuterAloneWrongFalsely : Prop := outerAloneRow.holds Tryz.pinned (OpenSpec.ofChange outerAloneWrong)

/-- 'meddlerlaw16.OuterSees': WHATEVER THE INPUT: true; the input reads as it did. -/
def outerSeesSpec : ChangeSpec := { name := "outerSees", fn := fun _ => fun
  | [d1, d2, d3, d4] => { results := [.lit (.bool true)], args := [d1, d2, d3, d4] }
  | _ => none }
def outerSeesRow : OpenClaim := { program := "ytbdcblpjemmipaagreat", sum := "a0e3310c8ae89e8e368e386d76bcf900dbceeaa3952c907f0e51868e76a79f71", func := "meddler/meddlerlaw16.OuterSees", spec := "outerSees", inPlace := ["slices.overlaps[meddler/api.Entry]"], unfollowed := true, recurses := true, apart := false }
def OuterSeesSaid : Prop := outerSeesRow.holds Tryz.pinned (OpenSpec.ofChange outerSeesSpec)

/-- ITS FALSE NEIGHBOUR: 'it returns false'. Refute it at one input. -/
def outerSeesWrong : ChangeSpec := { name := "outerSees", fn := fun _ => fun
  | [d1, d2, d3, d4] => { results := [.lit (.bool false)], args := [d1, d2, d3, d4] }
  | _ => none }
def OuterSeesWrongFalsely : Prop := outerSeesRow.holds Tryz.pinned (OpenSpec.ofChange outerSeesWrong)

/- THE SECOND FORM. 'bulk': how many values and letters a reading holds, each counted each time it is reached (what is shared counts as often as it is met; a slice's spare places count too). A statement '..UptoSaid' is the law's where the arguments, and the package variables that the reading takes, are together of bulk at most 1048576: NARROWER than '..Said'. Prove '..Said' where nothing that the law and all that it calls make is longer than what came in: it says more and counts as full. Else prove '..UptoSaid'. A law counts once. -/
mutual
def uptoBulk {H : Type} : DataW H → Nat
  | .lit (.string bytes) => bytes.length + 1
  | .lit _ => 1
  | .nil => 1
  | .ptr d => uptoBulk d + 1
  | .slice elems spare => uptoBulkAll elems + uptoBulkAll spare + 1
  | .agg parts => uptoBulkAll parts + 1
  | .iface _ d => uptoBulk d + 1
  | .map entries => uptoBulkEntries entries + 1
  | .held _ => 1
def uptoBulkAll {H : Type} : List (DataW H) → Nat
  | [] => 0
  | d :: r => uptoBulk d + uptoBulkAll r
def uptoBulkEntries {H : Type} : List (Lit × DataW H) → Nat
  | [] => 0
  | x :: r => uptoBulkEntry x + uptoBulkEntries r
def uptoBulkEntry {H : Type} : Lit × DataW H → Nat
  | (.string bytes, d) => bytes.length + uptoBulk d + 1
  | (_, d) => uptoBulk d + 1
 end
def uptoSmall : (H : Type) → List (DataW H) → Bool := fun _ ds => decide (uptoBulkAll ds ≤ 1048576)
def OpenSpec.upto (s : _root_.Go.ChangeSpec) : _root_.Go.OpenSpec := { _root_.Go.OpenSpec.ofChange s with cond := some uptoSmall }

/-- 'meddlerlaw16.OuterHides', WHERE WHAT IT READS IS OF BULK AT MOST 1048576: true; the input reads as it did. -/
def outerHidesUptoRow : OpenClaim := { program := "ytbdcblpjemmipaagreat", sum := "a0e3310c8ae89e8e368e386d76bcf900dbceeaa3952c907f0e51868e76a79f71", func := "meddler/meddlerlaw16.OuterHides", spec := "outerHides", inPlace := ["slices.overlaps[meddler/api.Entry]"], unfollowed := true, recurses := true, apart := false, narrowed := true }
def OuterHidesUptoSaid : Prop := outerHidesUptoRow.holds Tryz.pinned (OpenSpec.upto outerHidesSpec)

/-- 'meddlerlaw16.OuterRises', WHERE WHAT IT READS IS OF BULK AT MOST 1048576: true; the input reads as it did. -/
def outerRisesUptoRow : OpenClaim := { program := "ytbdcblpjemmipaagreat", sum := "a0e3310c8ae89e8e368e386d76bcf900dbceeaa3952c907f0e51868e76a79f71", func := "meddler/meddlerlaw16.OuterRises", spec := "outerRises", inPlace := ["slices.overlaps[meddler/api.Entry]"], unfollowed := true, recurses := true, apart := false, narrowed := true }
def OuterRisesUptoSaid : Prop := outerRisesUptoRow.holds Tryz.pinned (OpenSpec.upto outerRisesSpec)

/-- 'meddlerlaw14.FixRuns', WHERE WHAT IT READS IS OF BULK AT MOST 1048576: true; the input reads as it did. -/
def fixRunsUptoRow : OpenClaim := { program := "ytbdcblpjemmipaagreat", sum := "a0e3310c8ae89e8e368e386d76bcf900dbceeaa3952c907f0e51868e76a79f71", func := "meddler/meddlerlaw14.FixRuns", spec := "fixRuns", inPlace := ["slices.overlaps[meddler/api.Entry]"], unfollowed := true, recurses := true, apart := false, narrowed := true }
def FixRunsUptoSaid : Prop := fixRunsUptoRow.holds Tryz.pinned (OpenSpec.upto fixRunsSpec)

/-- 'meddlerlaw14.FixMore', WHERE WHAT IT READS IS OF BULK AT MOST 1048576: true; the input reads as it did. -/
def fixMoreUptoRow : OpenClaim := { program := "ytbdcblpjemmipaagreat", sum := "a0e3310c8ae89e8e368e386d76bcf900dbceeaa3952c907f0e51868e76a79f71", func := "meddler/meddlerlaw14.FixMore", spec := "fixMore", inPlace := ["slices.overlaps[meddler/api.Entry]"], unfollowed := true, recurses := true, apart := false, narrowed := true }
def FixMoreUptoSaid : Prop := fixMoreUptoRow.holds Tryz.pinned (OpenSpec.upto fixMoreSpec)

/-- 'meddlerlaw14.FixTells', WHERE WHAT IT READS IS OF BULK AT MOST 1048576: true; the input reads as it did. -/
def fixTellsUptoRow : OpenClaim := { program := "ytbdcblpjemmipaagreat", sum := "a0e3310c8ae89e8e368e386d76bcf900dbceeaa3952c907f0e51868e76a79f71", func := "meddler/meddlerlaw14.FixTells", spec := "fixTells", inPlace := ["slices.overlaps[meddler/api.Entry]"], unfollowed := true, recurses := true, apart := false, narrowed := true }
def FixTellsUptoSaid : Prop := fixTellsUptoRow.holds Tryz.pinned (OpenSpec.upto fixTellsSpec)

/-- 'meddlerlaw14.FixLine', WHERE WHAT IT READS IS OF BULK AT MOST 1048576: true; the input reads as it did. -/
def fixLineUptoRow : OpenClaim := { program := "ytbdcblpjemmipaagreat", sum := "a0e3310c8ae89e8e368e386d76bcf900dbceeaa3952c907f0e51868e76a79f71", func := "meddler/meddlerlaw14.FixLine", spec := "fixLine", inPlace := ["slices.overlaps[meddler/api.Entry]"], unfollowed := true, recurses := true, apart := false, narrowed := true }
def FixLineUptoSaid : Prop := fixLineUptoRow.holds Tryz.pinned (OpenSpec.upto fixLineSpec)

/-- 'meddlerlaw14.FixLoops', WHERE WHAT IT READS IS OF BULK AT MOST 1048576: true; the input reads as it did. -/
def fixLoopsUptoRow : OpenClaim := { program := "ytbdcblpjemmipaagreat", sum := "a0e3310c8ae89e8e368e386d76bcf900dbceeaa3952c907f0e51868e76a79f71", func := "meddler/meddlerlaw14.FixLoops", spec := "fixLoops", inPlace := ["slices.overlaps[meddler/api.Entry]"], unfollowed := true, recurses := true, apart := false, narrowed := true }
def FixLoopsUptoSaid : Prop := fixLoopsUptoRow.holds Tryz.pinned (OpenSpec.upto fixLoopsSpec)

/-- 'meddlerlaw14.FixNever', WHERE WHAT IT READS IS OF BULK AT MOST 1048576: true; the input reads as it did. -/
def fixNeverUptoRow : OpenClaim := { program := "ytbdcblpjemmipaagreat", sum := "a0e3310c8ae89e8e368e386d76bcf900dbceeaa3952c907f0e51868e76a79f71", func := "meddler/meddlerlaw14.FixNever", spec := "fixNever", inPlace := ["slices.overlaps[meddler/api.Entry]"], unfollowed := true, recurses := true, apart := false, narrowed := true }
def FixNeverUptoSaid : Prop := fixNeverUptoRow.holds Tryz.pinned (OpenSpec.upto fixNeverSpec)

/-- 'meddlerlaw14.FixClosed', WHERE WHAT IT READS IS OF BULK AT MOST 1048576: true; the input reads as it did. -/
def fixClosedUptoRow : OpenClaim := { program := "ytbdcblpjemmipaagreat", sum := "a0e3310c8ae89e8e368e386d76bcf900dbceeaa3952c907f0e51868e76a79f71", func := "meddler/meddlerlaw14.FixClosed", spec := "fixClosed", inPlace := ["slices.overlaps[meddler/api.Entry]"], unfollowed := true, recurses := true, apart := false, narrowed := true }
def FixClosedUptoSaid : Prop := fixClosedUptoRow.holds Tryz.pinned (OpenSpec.upto fixClosedSpec)

/-- 'meddlerlaw14.FixRounds', WHERE WHAT IT READS IS OF BULK AT MOST 1048576: true; the input reads as it did. -/
def fixRoundsUptoRow : OpenClaim := { program := "ytbdcblpjemmipaagreat", sum := "a0e3310c8ae89e8e368e386d76bcf900dbceeaa3952c907f0e51868e76a79f71", func := "meddler/meddlerlaw14.FixRounds", spec := "fixRounds", inPlace := ["slices.overlaps[meddler/api.Entry]"], unfollowed := true, recurses := true, apart := false, narrowed := true }
def FixRoundsUptoSaid : Prop := fixRoundsUptoRow.holds Tryz.pinned (OpenSpec.upto fixRoundsSpec)

/-- 'meddlerlaw16.OuterRuns', WHERE WHAT IT READS IS OF BULK AT MOST 1048576: true; the input reads as it did. -/
def outerRunsUptoRow : OpenClaim := { program := "ytbdcblpjemmipaagreat", sum := "a0e3310c8ae89e8e368e386d76bcf900dbceeaa3952c907f0e51868e76a79f71", func := "meddler/meddlerlaw16.OuterRuns", spec := "outerRuns", inPlace := ["slices.overlaps[meddler/api.Entry]"], unfollowed := true, recurses := true, apart := false, narrowed := true }
def OuterRunsUptoSaid : Prop := outerRunsUptoRow.holds Tryz.pinned (OpenSpec.upto outerRunsSpec)

/-- 'meddlerlaw16.OuterStores', WHERE WHAT IT READS IS OF BULK AT MOST 1048576: true; the input reads as it did. -/
def outerStoresUptoRow : OpenClaim := { program := "ytbdcblpjemmipaagreat", sum := "a0e3310c8ae89e8e368e386d76bcf900dbceeaa3952c907f0e51868e76a79f71", func := "meddler/meddlerlaw16.OuterStores", spec := "outerStores", inPlace := ["slices.overlaps[meddler/api.Entry]"], unfollowed := true, recurses := true, apart := false, narrowed := true }
def OuterStoresUptoSaid : Prop := outerStoresUptoRow.holds Tryz.pinned (OpenSpec.upto outerStoresSpec)

/-- 'meddlerlaw16.OuterAlone', WHERE WHAT IT READS IS OF BULK AT MOST 1048576: true; the input reads as it did. -/
def outerAloneUptoRow : OpenClaim := { program := "ytbdcblpjemmipaagreat", sum := "a0e3310c8ae89e8e368e386d76bcf900dbceeaa3952c907f0e51868e76a79f71", func := "meddler/meddlerlaw16.OuterAlone", spec := "outerAlone", inPlace := ["slices.overlaps[meddler/api.Entry]"], unfollowed := true, recurses := true, apart := false, narrowed := true }
def OuterAloneUptoSaid : Prop := outerAloneUptoRow.holds Tryz.pinned (OpenSpec.upto outerAloneSpec)

/-- 'meddlerlaw16.OuterSees', WHERE WHAT IT READS IS OF BULK AT MOST 1048576: true; the input reads as it did. -/
def outerSeesUptoRow : OpenClaim := { program := "ytbdcblpjemmipaagreat", sum := "a0e3310c8ae89e8e368e386d76bcf900dbceeaa3952c907f0e51868e76a79f71", func := "meddler/meddlerlaw16.OuterSees", spec := "outerSees", inPlace := ["slices.overlaps[meddler/api.Entry]"], unfollowed := true, recurses := true, apart := false, narrowed := true }
def OuterSeesUptoSaid : Prop := outerSeesUptoRow.holds Tryz.pinned (OpenSpec.upto outerSeesSpec)

end Rows
end Go.Proofs.YtbdcblpjemmipaaGreat
