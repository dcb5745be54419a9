/-
  No cell of these rows narrows 'for every input' (looked for: loops, veiled, ifaces, maps, wideKeys, modest, calm, conditions, laid).
  DERIVED. THE GIVEN ROWS OF THIS SEAT. 9 by the template 'for every input the law returns true; each argument reads behind the call as it read before'; 0 by the template 'total and deterministic' (their statements: YtbdcblpjemmipaaTotals.lean).
  GIVEN WITH THE SEED: the statements are not yours to turn. If you find one false, say at which input.
  Laid BY PROGRAM, IN A SANDBOX (cutbox-rows.mjs): the forced cells as the released guide's own fill.sh prints them over the translation c8e230e915e1e27b… (all of the seat's roots in one cut). By AI agents, Wed Nov 11 2026. No macro, syntax, notation, axiom, sorry.
-/
import Derived.Test.YtbdcblpjemmipaaChecked
import GoSem.Claim
import GoSem.ClaimJoined
import GoSem.ClaimMapViews
import Derived.JoinedTies
import Derived.KernelRfl
namespace Go.Proofs.Ytbdcblpjemmipaa
/- THE CELL 'sum', in the pinned program and in every row, IS THE sha256 OF THE DUMP (.gsa) THAT YtbdcblpjemmipaaProg.lean LOADS. Nothing in Lean hashes anything: it is a label: what it is worth is what the hold of that sum in a sandbox is worth. -/
noncomputable def Try.pinned : Pinned := { name := "ytbdcblpjemmipaa", sum := "c8e230e915e1e27b537537dd9c53e77cf7a5fd6842658feb2cf13d175177f128", checked := Try.checked }
namespace Rows
def none {H : Type} : Left H := { results := [], args := [] }

/-- 'meddlerlaw12.TabSeen': WHATEVER THE INPUT: true; the input reads as it did. -/
def tabSeenSpec : ChangeSpec := { name := "tabSeen", fn := fun _ => fun
  | [d1, d2, d3, d4, d5, d6, d7] => { results := [.lit (.bool true)], args := [d1, d2, d3, d4, d5, d6, d7] }
  | _ => none }
def tabSeenRow : OpenClaim := { program := "ytbdcblpjemmipaa", sum := "c8e230e915e1e27b537537dd9c53e77cf7a5fd6842658feb2cf13d175177f128", func := "meddler/meddlerlaw12.TabSeen", spec := "tabSeen", inPlace := ["slices.overlaps[meddler/api.Entry]"], unfollowed := true, recurses := true, apart := false }
def TabSeenSaid : Prop := tabSeenRow.holds Try.pinned (OpenSpec.ofChange tabSeenSpec)

/-- ITS FALSE NEIGHBOUR: 'it returns false'. Refute it at one input. -/
def tabSeenWrong : ChangeSpec := { name := "tabSeen", fn := fun _ => fun
  | [d1, d2, d3, d4, d5, d6, d7] => { results := [.lit (.bool false)], args := [d1, d2, d3, d4, d5, d6, d7] }
  | _ => none }
def TabSeenWrongFalsely : Prop := tabSeenRow.holds Try.pinned (OpenSpec.ofChange tabSeenWrong)

/-- 'meddlerlaw12.TabAdds': WHATEVER THE INPUT: true; the input reads as it did. -/
def tabAddsSpec : ChangeSpec := { name := "tabAdds", fn := fun _ => fun
  | [d] => { results := [.lit (.bool true)], args := [d] }
  | _ => none }
def tabAddsRow : OpenClaim := { program := "ytbdcblpjemmipaa", sum := "c8e230e915e1e27b537537dd9c53e77cf7a5fd6842658feb2cf13d175177f128", func := "meddler/meddlerlaw12.TabAdds", spec := "tabAdds", inPlace := ["slices.overlaps[meddler/api.Entry]"], unfollowed := true, recurses := true, apart := false }
def TabAddsSaid : Prop := tabAddsRow.holds Try.pinned (OpenSpec.ofChange tabAddsSpec)

/-- ITS FALSE NEIGHBOUR: 'it returns false'. Refute it at one input. -/
def tabAddsWrong : ChangeSpec := { name := "tabAdds", fn := fun _ => fun
  | [d] => { results := [.lit (.bool false)], args := [d] }
  | _ => none }
def TabAddsWrongFalsely : Prop := tabAddsRow.holds Try.pinned (OpenSpec.ofChange tabAddsWrong)

/-- 'meddlerlaw12.TabAbove': WHATEVER THE INPUT: true; the input reads as it did. -/
def tabAboveSpec : ChangeSpec := { name := "tabAbove", fn := fun _ => fun
  | [d1, d2, d3] => { results := [.lit (.bool true)], args := [d1, d2, d3] }
  | _ => none }
def tabAboveRow : OpenClaim := { program := "ytbdcblpjemmipaa", sum := "c8e230e915e1e27b537537dd9c53e77cf7a5fd6842658feb2cf13d175177f128", func := "meddler/meddlerlaw12.TabAbove", spec := "tabAbove", inPlace := ["slices.overlaps[meddler/api.Entry]"], unfollowed := true, recurses := true, apart := false }
def TabAboveSaid : Prop := tabAboveRow.holds Try.pinned (OpenSpec.ofChange tabAboveSpec)

/-- ITS FALSE NEIGHBOUR: 'it returns false'. Refute it at one input. -/
def tabAboveWrong : ChangeSpec := { name := "tabAbove", fn := fun _ => fun
  | [d1, d2, d3] => { results := [.lit (.bool false)], args := [d1, d2, d3] }
  | _ => none }
def TabAboveWrongFalsely : Prop := tabAboveRow.holds Try.pinned (OpenSpec.ofChange tabAboveWrong)

/-- 'meddlerlaw12.TabGrows': WHATEVER THE INPUT: true; the input reads as it did. -/
def tabGrowsSpec : ChangeSpec := { name := "tabGrows", fn := fun _ => fun
  | [d1, d2] => { results := [.lit (.bool true)], args := [d1, d2] }
  | _ => none }
def tabGrowsRow : OpenClaim := { program := "ytbdcblpjemmipaa", sum := "c8e230e915e1e27b537537dd9c53e77cf7a5fd6842658feb2cf13d175177f128", func := "meddler/meddlerlaw12.TabGrows", spec := "tabGrows", inPlace := ["slices.overlaps[meddler/api.Entry]"], unfollowed := true, recurses := true, apart := false }
def TabGrowsSaid : Prop := tabGrowsRow.holds Try.pinned (OpenSpec.ofChange tabGrowsSpec)

/-- ITS FALSE NEIGHBOUR: 'it returns false'. Refute it at one input. -/
def tabGrowsWrong : ChangeSpec := { name := "tabGrows", fn := fun _ => fun
  | [d1, d2] => { results := [.lit (.bool false)], args := [d1, d2] }
  | _ => none }
def TabGrowsWrongFalsely : Prop := tabGrowsRow.holds Try.pinned (OpenSpec.ofChange tabGrowsWrong)

/-- 'meddlerlaw12.TabTells': WHATEVER THE INPUT: true; the input reads as it did. -/
def tabTellsSpec : ChangeSpec := { name := "tabTells", fn := fun _ => fun
  | [d1, d2, d3, d4, d5, d6, d7, d8, d9] => { results := [.lit (.bool true)], args := [d1, d2, d3, d4, d5, d6, d7, d8, d9] }
  | _ => none }
def tabTellsRow : OpenClaim := { program := "ytbdcblpjemmipaa", sum := "c8e230e915e1e27b537537dd9c53e77cf7a5fd6842658feb2cf13d175177f128", func := "meddler/meddlerlaw12.TabTells", spec := "tabTells", inPlace := ["slices.overlaps[meddler/api.Entry]"], unfollowed := true, recurses := true, apart := false }
def TabTellsSaid : Prop := tabTellsRow.holds Try.pinned (OpenSpec.ofChange tabTellsSpec)

/-- ITS FALSE NEIGHBOUR: 'it returns false'. Refute it at one input. -/
def tabTellsWrong : ChangeSpec := { name := "tabTells", fn := fun _ => fun
  | [d1, d2, d3, d4, d5, d6, d7, d8, d9] => { results := [.lit (.bool false)], args := [d1, d2, d3, d4, d5, d6, d7, d8, d9] }
  | _ => none }
def TabTellsWrongFalsely : Prop := tabTellsRow.holds Try.pinned (OpenSpec.ofChange tabTellsWrong)

/-- 'meddlerlaw13.FlowDoes': WHATEVER THE INPUT: true; the input reads as it did. -/
def flowDoesSpec : ChangeSpec := { name := "flowDoes", fn := fun _ => fun
  | [d1, d2, d3, d4, d5, d6] => { results := [.lit (.bool true)], args := [d1, d2, d3, d4, d5, d6] }
  | _ => none }
def flowDoesRow : OpenClaim := { program := "ytbdcblpjemmipaa", sum := "c8e230e915e1e27b537537dd9c53e77cf7a5fd6842658feb2cf13d175177f128", func := "meddler/meddlerlaw13.FlowDoes", spec := "flowDoes", unfollowed := true, recurses := true, apart := false }
def FlowDoesSaid : Prop := flowDoesRow.holds Try.pinned (OpenSpec.ofChange flowDoesSpec)

/-- ITS FALSE NEIGHBOUR: 'it returns false'. Refute it at one input. -/
def flowDoesWrong : ChangeSpec := { name := "flowDoes", fn := fun _ => fun
  | [d1, d2, d3, d4, d5, d6] => { results := [.lit (.bool false)], args := [d1, d2, d3, d4, d5, d6] }
  | _ => none }
def FlowDoesWrongFalsely : Prop := flowDoesRow.holds Try.pinned (OpenSpec.ofChange flowDoesWrong)

/-- 'meddlerlaw13.FlowSound': WHATEVER THE INPUT: true; the input reads as it did. -/
def flowSoundSpec : ChangeSpec := { name := "flowSound", fn := fun _ => fun
  | [d1, d2, d3, d4, d5, d6, d7, d8] => { results := [.lit (.bool true)], args := [d1, d2, d3, d4, d5, d6, d7, d8] }
  | _ => none }
def flowSoundRow : OpenClaim := { program := "ytbdcblpjemmipaa", sum := "c8e230e915e1e27b537537dd9c53e77cf7a5fd6842658feb2cf13d175177f128", func := "meddler/meddlerlaw13.FlowSound", spec := "flowSound", unfollowed := true, recurses := true, apart := false }
def FlowSoundSaid : Prop := flowSoundRow.holds Try.pinned (OpenSpec.ofChange flowSoundSpec)

/-- ITS FALSE NEIGHBOUR: 'it returns false'. Refute it at one input. -/
def flowSoundWrong : ChangeSpec := { name := "flowSound", fn := fun _ => fun
  | [d1, d2, d3, d4, d5, d6, d7, d8] => { results := [.lit (.bool false)], args := [d1, d2, d3, d4, d5, d6, d7, d8] }
  | _ => none }
def FlowSoundWrongFalsely : Prop := flowSoundRow.holds Try.pinned (OpenSpec.ofChange flowSoundWrong)

/-- 'meddlerlaw13.FlowOff': WHATEVER THE INPUT: true; the input reads as it did. -/
def flowOffSpec : ChangeSpec := { name := "flowOff", fn := fun _ => fun
  | [d1, d2, d3, d4] => { results := [.lit (.bool true)], args := [d1, d2, d3, d4] }
  | _ => none }
def flowOffRow : OpenClaim := { program := "ytbdcblpjemmipaa", sum := "c8e230e915e1e27b537537dd9c53e77cf7a5fd6842658feb2cf13d175177f128", func := "meddler/meddlerlaw13.FlowOff", spec := "flowOff", unfollowed := true, recurses := true, apart := false }
def FlowOffSaid : Prop := flowOffRow.holds Try.pinned (OpenSpec.ofChange flowOffSpec)

/-- ITS FALSE NEIGHBOUR: 'it returns false'. Refute it at one input. -/
def flowOffWrong : ChangeSpec := { name := "flowOff", fn := fun _ => fun
  | [d1, d2, d3, d4] => { results := [.lit (.bool false)], args := [d1, d2, d3, d4] }
  | _ => none }
def FlowOffWrongFalsely : Prop := flowOffRow.holds Try.pinned (OpenSpec.ofChange flowOffWrong)

/-- 'meddlerlaw13.FlowMore': WHATEVER THE INPUT: true; the input reads as it did. -/
def flowMoreSpec : ChangeSpec := { name := "flowMore", fn := fun _ => fun
  | [d1, d2, d3, d4, d5, d6, d7] => { results := [.lit (.bool true)], args := [d1, d2, d3, d4, d5, d6, d7] }
  | _ => none }
def flowMoreRow : OpenClaim := { program := "ytbdcblpjemmipaa", sum := "c8e230e915e1e27b537537dd9c53e77cf7a5fd6842658feb2cf13d175177f128", func := "meddler/meddlerlaw13.FlowMore", spec := "flowMore", unfollowed := true, recurses := true, apart := false }
def FlowMoreSaid : Prop := flowMoreRow.holds Try.pinned (OpenSpec.ofChange flowMoreSpec)

/-- ITS FALSE NEIGHBOUR: 'it returns false'. Refute it at one input. -/
def flowMoreWrong : ChangeSpec := { name := "flowMore", fn := fun _ => fun
  | [d1, d2, d3, d4, d5, d6, d7] => { results := [.lit (.bool false)], args := [d1, d2, d3, d4, d5, d6, d7] }
  | _ => none }
def FlowMoreWrongFalsely : Prop := flowMoreRow.holds Try.pinned (OpenSpec.ofChange flowMoreWrong)

/- THE SECOND FORM. 'bulk': how many values and letters a reading holds, each counted each time it is reached (what is shared counts as often as it is met; a slice's spare places count too). A statement '..UptoSaid' is the law's where the arguments, and the package variables that the reading takes, are together of bulk at most 1048576: NARROWER than '..Said'. Prove '..Said' where nothing that the law and all that it calls make is longer than what came in: it says more and counts as full. Else prove '..UptoSaid'. A law counts once. -/
mutual
def uptoBulk {H : Type} : DataW H → Nat
  | .lit (.string bytes) => bytes.length + 1
  | .lit _ => 1
  | .nil => 1
  | .ptr d => uptoBulk d + 1
  | .slice elems spare => uptoBulkAll elems + uptoBulkAll spare + 1
  | .agg parts => uptoBulkAll parts + 1
  | .iface _ d => uptoBulk d + 1
  | .map entries => uptoBulkEntries entries + 1
  | .held _ => 1
def uptoBulkAll {H : Type} : List (DataW H) → Nat
  | [] => 0
  | d :: r => uptoBulk d + uptoBulkAll r
def uptoBulkEntries {H : Type} : List (Lit × DataW H) → Nat
  | [] => 0
  | x :: r => uptoBulkEntry x + uptoBulkEntries r
def uptoBulkEntry {H : Type} : Lit × DataW H → Nat
  | (.string bytes, d) => bytes.length + uptoBulk d + 1
  | (_, d) => uptoBulk d + 1
 end
def uptoSmall : (H : Type) → List (DataW H) → Bool := fun _ ds => decide (uptoBulkAll ds ≤ 1048576)
def OpenSpec.upto (s : _root_.Go.ChangeSpec) : _root_.Go.OpenSpec := { _root_.Go.OpenSpec.ofChange s with cond := some uptoSmall }

/-- 'meddlerlaw12.TabSeen', WHERE WHAT IT READS IS OF BULK AT MOST 1048576: true; the input reads as it did. -/
def tabSeenUptoRow : OpenClaim := { program := "ytbdcblpjemmipaa", sum := "c8e230e915e1e27b537537dd9c53e77cf7a5fd6842658feb2cf13d175177f128", func := "meddler/meddlerlaw12.TabSeen", spec := "tabSeen", inPlace := ["slices.overlaps[meddler/api.Entry]"], unfollowed := true, recurses := true, apart := false, narrowed := true }
def TabSeenUptoSaid : Prop := tabSeenUptoRow.holds Try.pinned (OpenSpec.upto tabSeenSpec)

/-- 'meddlerlaw12.TabAdds', WHERE WHAT IT READS IS OF BULK AT MOST 1048576: true; the input reads as it did. -/
def tabAddsUptoRow : OpenClaim := { program := "ytbdcblpjemmipaa", sum := "c8e230e915e1e27b537537dd9c53e77cf7a5fd6842658feb2cf13d175177f128", func := "meddler/meddlerlaw12.TabAdds", spec := "tabAdds", inPlace := ["slices.overlaps[meddler/api.Entry]"], unfollowed := true, recurses := true, apart := false, narrowed := true }
def TabAddsUptoSaid : Prop := tabAddsUptoRow.holds Try.pinned (OpenSpec.upto tabAddsSpec)

/-- 'meddlerlaw12.TabAbove', WHERE WHAT IT READS IS OF BULK AT MOST 1048576: true; the input reads as it did. -/
def tabAboveUptoRow : OpenClaim := { program := "ytbdcblpjemmipaa", sum := "c8e230e915e1e27b537537dd9c53e77cf7a5fd6842658feb2cf13d175177f128", func := "meddler/meddlerlaw12.TabAbove", spec := "tabAbove", inPlace := ["slices.overlaps[meddler/api.Entry]"], unfollowed := true, recurses := true, apart := false, narrowed := true }
def TabAboveUptoSaid : Prop := tabAboveUptoRow.holds Try.pinned (OpenSpec.upto tabAboveSpec)

/-- 'meddlerlaw12.TabGrows', WHERE WHAT IT READS IS OF BULK AT MOST 1048576: true; the input reads as it did. -/
def tabGrowsUptoRow : OpenClaim := { program := "ytbdcblpjemmipaa", sum := "c8e230e915e1e27b537537dd9c53e77cf7a5fd6842658feb2cf13d175177f128", func := "meddler/meddlerlaw12.TabGrows", spec := "tabGrows", inPlace := ["slices.overlaps[meddler/api.Entry]"], unfollowed := true, recurses := true, apart := false, narrowed := true }
def TabGrowsUptoSaid : Prop := tabGrowsUptoRow.holds Try.pinned (OpenSpec.upto tabGrowsSpec)

/-- 'meddlerlaw12.TabTells', WHERE WHAT IT READS IS OF BULK AT MOST 1048576: true; the input reads as it did. -/
def tabTellsUptoRow : OpenClaim := { program := "ytbdcblpjemmipaa", sum := "c8e230e915e1e27b537537dd9c53e77cf7a5fd6842658feb2cf13d175177f128", func := "meddler/meddlerlaw12.TabTells", spec := "tabTells", inPlace := ["slices.overlaps[meddler/api.Entry]"], unfollowed := true, recurses := true, apart := false, narrowed := true }
def TabTellsUptoSaid : Prop := tabTellsUptoRow.holds Try.pinned (OpenSpec.upto tabTellsSpec)

/-- 'meddlerlaw13.FlowDoes', WHERE WHAT IT READS IS OF BULK AT MOST 1048576: true; the input reads as it did. -/
def flowDoesUptoRow : OpenClaim := { program := "ytbdcblpjemmipaa", sum := "c8e230e915e1e27b537537dd9c53e77cf7a5fd6842658feb2cf13d175177f128", func := "meddler/meddlerlaw13.FlowDoes", spec := "flowDoes", unfollowed := true, recurses := true, apart := false, narrowed := true }
def FlowDoesUptoSaid : Prop := flowDoesUptoRow.holds Try.pinned (OpenSpec.upto flowDoesSpec)

/-- 'meddlerlaw13.FlowSound', WHERE WHAT IT READS IS OF BULK AT MOST 1048576: true; the input reads as it did. -/
def flowSoundUptoRow : OpenClaim := { program := "ytbdcblpjemmipaa", sum := "c8e230e915e1e27b537537dd9c53e77cf7a5fd6842658feb2cf13d175177f128", func := "meddler/meddlerlaw13.FlowSound", spec := "flowSound", unfollowed := true, recurses := true, apart := false, narrowed := true }
def FlowSoundUptoSaid : Prop := flowSoundUptoRow.holds Try.pinned (OpenSpec.upto flowSoundSpec)

/-- 'meddlerlaw13.FlowOff', WHERE WHAT IT READS IS OF BULK AT MOST 1048576: true; the input reads as it did. -/
def flowOffUptoRow : OpenClaim := { program := "ytbdcblpjemmipaa", sum := "c8e230e915e1e27b537537dd9c53e77cf7a5fd6842658feb2cf13d175177f128", func := "meddler/meddlerlaw13.FlowOff", spec := "flowOff", unfollowed := true, recurses := true, apart := false, narrowed := true }
def FlowOffUptoSaid : Prop := flowOffUptoRow.holds Try.pinned (OpenSpec.upto flowOffSpec)

/-- 'meddlerlaw13.FlowMore', WHERE WHAT IT READS IS OF BULK AT MOST 1048576: true; the input reads as it did. -/
def flowMoreUptoRow : OpenClaim := { program := "ytbdcblpjemmipaa", sum := "c8e230e915e1e27b537537dd9c53e77cf7a5fd6842658feb2cf13d175177f128", func := "meddler/meddlerlaw13.FlowMore", spec := "flowMore", unfollowed := true, recurses := true, apart := false, narrowed := true }
def FlowMoreUptoSaid : Prop := flowMoreUptoRow.holds Try.pinned (OpenSpec.upto flowMoreSpec)

end Rows
end Go.Proofs.Ytbdcblpjemmipaa
