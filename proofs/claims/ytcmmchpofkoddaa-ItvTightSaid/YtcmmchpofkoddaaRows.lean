/-
  No cell of these rows narrows 'for every input' (looked for: loops, veiled, ifaces, maps, wideKeys, modest, calm, conditions, laid).
  DERIVED. THE GIVEN ROWS OF THIS SEAT. 13 by the template 'for every input the law returns true; each argument reads behind the call as it read before'; 0 by the template 'total and deterministic' (their statements: YtcmmchpofkoddaaTotals.lean).
  GIVEN WITH THE SEED: the statements are not yours to turn. If you find one false, say at which input.
  Laid BY PROGRAM, IN A SANDBOX (cutbox-rows.mjs): the forced cells as the released guide's own fill.sh prints them over the translation 90a79b7ccd048eac… (all of the seat's roots in one cut). By AI agents, Wed Nov 11 2026. No macro, syntax, notation, axiom, sorry.
-/
import Derived.Test.YtcmmchpofkoddaaChecked
import GoSem.Claim
import GoSem.ClaimJoined
import GoSem.ClaimMapViews
import Derived.JoinedTies
import Derived.KernelRfl
namespace Go.Proofs.Ytcmmchpofkoddaa
/- THE CELL 'sum', in the pinned program and in every row, IS THE sha256 OF THE DUMP (.gsa) THAT YtcmmchpofkoddaaProg.lean LOADS. Nothing in Lean hashes anything: it is a label: what it is worth is what the hold of that sum in a sandbox is worth. -/
noncomputable def Try.pinned : Pinned := { name := "ytcmmchpofkoddaa", sum := "90a79b7ccd048eac047d9f7ac3e5bcbb387c5e3f97350e4cc103d25f372cb280", checked := Try.checked }
namespace Rows
def none {H : Type} : Left H := { results := [], args := [] }

/-- 'meddlerlaw2.ItvDoes': WHATEVER THE INPUT: true; the input reads as it did. -/
def itvDoesSpec : ChangeSpec := { name := "itvDoes", fn := fun _ => fun
  | [d1, d2, d3] => { results := [.lit (.bool true)], args := [d1, d2, d3] }
  | _ => none }
def itvDoesRow : OpenClaim := { program := "ytcmmchpofkoddaa", sum := "90a79b7ccd048eac047d9f7ac3e5bcbb387c5e3f97350e4cc103d25f372cb280", func := "meddler/meddlerlaw2.ItvDoes", spec := "itvDoes", unfollowed := true, recurses := true, apart := false }
def ItvDoesSaid : Prop := itvDoesRow.holds Try.pinned (OpenSpec.ofChange itvDoesSpec)

/-- ITS FALSE NEIGHBOUR: 'it returns false'. Refute it at one input. -/
def itvDoesWrong : ChangeSpec := { name := "itvDoes", fn := fun _ => fun
  | [d1, d2, d3] => { results := [.lit (.bool false)], args := [d1, d2, d3] }
  | _ => none }
def ItvDoesWrongFalsely : Prop := itvDoesRow.holds Try.pinned (OpenSpec.ofChange itvDoesWrong)

/-- 'meddlerlaw2.ItvSound': WHATEVER THE INPUT: true; the input reads as it did. -/
def itvSoundSpec : ChangeSpec := { name := "itvSound", fn := fun _ => fun
  | [d1, d2, d3, d4, d5] => { results := [.lit (.bool true)], args := [d1, d2, d3, d4, d5] }
  | _ => none }
def itvSoundRow : OpenClaim := { program := "ytcmmchpofkoddaa", sum := "90a79b7ccd048eac047d9f7ac3e5bcbb387c5e3f97350e4cc103d25f372cb280", func := "meddler/meddlerlaw2.ItvSound", spec := "itvSound", unfollowed := true, recurses := true, apart := false }
def ItvSoundSaid : Prop := itvSoundRow.holds Try.pinned (OpenSpec.ofChange itvSoundSpec)

/-- ITS FALSE NEIGHBOUR: 'it returns false'. Refute it at one input. -/
def itvSoundWrong : ChangeSpec := { name := "itvSound", fn := fun _ => fun
  | [d1, d2, d3, d4, d5] => { results := [.lit (.bool false)], args := [d1, d2, d3, d4, d5] }
  | _ => none }
def ItvSoundWrongFalsely : Prop := itvSoundRow.holds Try.pinned (OpenSpec.ofChange itvSoundWrong)

/-- 'meddlerlaw2.ItvOrders': WHATEVER THE INPUT: true; the input reads as it did. -/
def itvOrdersSpec : ChangeSpec := { name := "itvOrders", fn := fun _ => fun
  | [d1, d2, d3] => { results := [.lit (.bool true)], args := [d1, d2, d3] }
  | _ => none }
def itvOrdersRow : OpenClaim := { program := "ytcmmchpofkoddaa", sum := "90a79b7ccd048eac047d9f7ac3e5bcbb387c5e3f97350e4cc103d25f372cb280", func := "meddler/meddlerlaw2.ItvOrders", spec := "itvOrders", unfollowed := true, recurses := true, apart := false }
def ItvOrdersSaid : Prop := itvOrdersRow.holds Try.pinned (OpenSpec.ofChange itvOrdersSpec)

/-- ITS FALSE NEIGHBOUR: 'it returns false'. Refute it at one input. -/
def itvOrdersWrong : ChangeSpec := { name := "itvOrders", fn := fun _ => fun
  | [d1, d2, d3] => { results := [.lit (.bool false)], args := [d1, d2, d3] }
  | _ => none }
def ItvOrdersWrongFalsely : Prop := itvOrdersRow.holds Try.pinned (OpenSpec.ofChange itvOrdersWrong)

/-- 'meddlerlaw2.ItvMore': WHATEVER THE INPUT: true; the input reads as it did. -/
def itvMoreSpec : ChangeSpec := { name := "itvMore", fn := fun _ => fun
  | [d1, d2, d3, d4, d5] => { results := [.lit (.bool true)], args := [d1, d2, d3, d4, d5] }
  | _ => none }
def itvMoreRow : OpenClaim := { program := "ytcmmchpofkoddaa", sum := "90a79b7ccd048eac047d9f7ac3e5bcbb387c5e3f97350e4cc103d25f372cb280", func := "meddler/meddlerlaw2.ItvMore", spec := "itvMore", unfollowed := true, recurses := true, apart := false }
def ItvMoreSaid : Prop := itvMoreRow.holds Try.pinned (OpenSpec.ofChange itvMoreSpec)

/-- ITS FALSE NEIGHBOUR: 'it returns false'. Refute it at one input. -/
def itvMoreWrong : ChangeSpec := { name := "itvMore", fn := fun _ => fun
  | [d1, d2, d3, d4, d5] => { results := [.lit (.bool false)], args := [d1, d2, d3, d4, d5] }
  | _ => none }
def ItvMoreWrongFalsely : Prop := itvMoreRow.holds Try.pinned (OpenSpec.ofChange itvMoreWrong)

/-- 'meddlerlaw2.ItvTight': WHATEVER THE INPUT: true; the input reads as it did. -/
def itvTightSpec : ChangeSpec := { name := "itvTight", fn := fun _ => fun
  | [d1, d2, d3] => { results := [.lit (.bool true)], args := [d1, d2, d3] }
  | _ => none }
def itvTightRow : OpenClaim := { program := "ytcmmchpofkoddaa", sum := "90a79b7ccd048eac047d9f7ac3e5bcbb387c5e3f97350e4cc103d25f372cb280", func := "meddler/meddlerlaw2.ItvTight", spec := "itvTight", unfollowed := true, recurses := true, apart := false }
def ItvTightSaid : Prop := itvTightRow.holds Try.pinned (OpenSpec.ofChange itvTightSpec)

/-- ITS FALSE NEIGHBOUR: 'it returns false'. Refute it at one input. -/
def itvTightWrong : ChangeSpec := { name := "itvTight", fn := fun _ => fun
  | [d1, d2, d3] => { results := [.lit (.bool false)], args := [d1, d2, d3] }
  | _ => none }
def ItvTightWrongFalsely : Prop := itvTightRow.holds Try.pinned (OpenSpec.ofChange itvTightWrong)

/-- 'meddlerlaw2.ItvPoints': WHATEVER THE INPUT: true; the input reads as it did. -/
def itvPointsSpec : ChangeSpec := { name := "itvPoints", fn := fun _ => fun
  | [d1, d2, d3] => { results := [.lit (.bool true)], args := [d1, d2, d3] }
  | _ => none }
def itvPointsRow : OpenClaim := { program := "ytcmmchpofkoddaa", sum := "90a79b7ccd048eac047d9f7ac3e5bcbb387c5e3f97350e4cc103d25f372cb280", func := "meddler/meddlerlaw2.ItvPoints", spec := "itvPoints", unfollowed := true, recurses := true, apart := false }
def ItvPointsSaid : Prop := itvPointsRow.holds Try.pinned (OpenSpec.ofChange itvPointsSpec)

/-- ITS FALSE NEIGHBOUR: 'it returns false'. Refute it at one input. -/
def itvPointsWrong : ChangeSpec := { name := "itvPoints", fn := fun _ => fun
  | [d1, d2, d3] => { results := [.lit (.bool false)], args := [d1, d2, d3] }
  | _ => none }
def ItvPointsWrongFalsely : Prop := itvPointsRow.holds Try.pinned (OpenSpec.ofChange itvPointsWrong)

/-- 'meddlerlaw2.ItvOfs': WHATEVER THE INPUT: true; the input reads as it did. -/
def itvOfsSpec : ChangeSpec := { name := "itvOfs", fn := fun _ => fun
  | [d] => { results := [.lit (.bool true)], args := [d] }
  | _ => none }
def itvOfsRow : OpenClaim := { program := "ytcmmchpofkoddaa", sum := "90a79b7ccd048eac047d9f7ac3e5bcbb387c5e3f97350e4cc103d25f372cb280", func := "meddler/meddlerlaw2.ItvOfs", spec := "itvOfs", unfollowed := true, recurses := true, apart := false }
def ItvOfsSaid : Prop := itvOfsRow.holds Try.pinned (OpenSpec.ofChange itvOfsSpec)

/-- ITS FALSE NEIGHBOUR: 'it returns false'. Refute it at one input. -/
def itvOfsWrong : ChangeSpec := { name := "itvOfs", fn := fun _ => fun
  | [d] => { results := [.lit (.bool false)], args := [d] }
  | _ => none }
def ItvOfsWrongFalsely : Prop := itvOfsRow.holds Try.pinned (OpenSpec.ofChange itvOfsWrong)

/-- 'meddlerlaw2.ItvTells': WHATEVER THE INPUT: true; the input reads as it did. -/
def itvTellsSpec : ChangeSpec := { name := "itvTells", fn := fun _ => fun
  | [d1, d2, d3, d4] => { results := [.lit (.bool true)], args := [d1, d2, d3, d4] }
  | _ => none }
def itvTellsRow : OpenClaim := { program := "ytcmmchpofkoddaa", sum := "90a79b7ccd048eac047d9f7ac3e5bcbb387c5e3f97350e4cc103d25f372cb280", func := "meddler/meddlerlaw2.ItvTells", spec := "itvTells", unfollowed := true, recurses := true, apart := false }
def ItvTellsSaid : Prop := itvTellsRow.holds Try.pinned (OpenSpec.ofChange itvTellsSpec)

/-- ITS FALSE NEIGHBOUR: 'it returns false'. Refute it at one input. -/
def itvTellsWrong : ChangeSpec := { name := "itvTells", fn := fun _ => fun
  | [d1, d2, d3, d4] => { results := [.lit (.bool false)], args := [d1, d2, d3, d4] }
  | _ => none }
def ItvTellsWrongFalsely : Prop := itvTellsRow.holds Try.pinned (OpenSpec.ofChange itvTellsWrong)

/-- 'meddlerlaw2.ItvKeeps': WHATEVER THE INPUT: true; the input reads as it did. -/
def itvKeepsSpec : ChangeSpec := { name := "itvKeeps", fn := fun _ => fun
  | [d1, d2, d3, d4, d5] => { results := [.lit (.bool true)], args := [d1, d2, d3, d4, d5] }
  | _ => none }
def itvKeepsRow : OpenClaim := { program := "ytcmmchpofkoddaa", sum := "90a79b7ccd048eac047d9f7ac3e5bcbb387c5e3f97350e4cc103d25f372cb280", func := "meddler/meddlerlaw2.ItvKeeps", spec := "itvKeeps", unfollowed := true, recurses := true, apart := false }
def ItvKeepsSaid : Prop := itvKeepsRow.holds Try.pinned (OpenSpec.ofChange itvKeepsSpec)

/-- ITS FALSE NEIGHBOUR: 'it returns false'. Refute it at one input. -/
def itvKeepsWrong : ChangeSpec := { name := "itvKeeps", fn := fun _ => fun
  | [d1, d2, d3, d4, d5] => { results := [.lit (.bool false)], args := [d1, d2, d3, d4, d5] }
  | _ => none }
def ItvKeepsWrongFalsely : Prop := itvKeepsRow.holds Try.pinned (OpenSpec.ofChange itvKeepsWrong)

/-- 'meddlerlaw2.ItvSides': WHATEVER THE INPUT: true; the input reads as it did. -/
def itvSidesSpec : ChangeSpec := { name := "itvSides", fn := fun _ => fun
  | [d1, d2, d3] => { results := [.lit (.bool true)], args := [d1, d2, d3] }
  | _ => none }
def itvSidesRow : OpenClaim := { program := "ytcmmchpofkoddaa", sum := "90a79b7ccd048eac047d9f7ac3e5bcbb387c5e3f97350e4cc103d25f372cb280", func := "meddler/meddlerlaw2.ItvSides", spec := "itvSides", unfollowed := true, recurses := true, apart := false }
def ItvSidesSaid : Prop := itvSidesRow.holds Try.pinned (OpenSpec.ofChange itvSidesSpec)

/-- ITS FALSE NEIGHBOUR: 'it returns false'. Refute it at one input. -/
def itvSidesWrong : ChangeSpec := { name := "itvSides", fn := fun _ => fun
  | [d1, d2, d3] => { results := [.lit (.bool false)], args := [d1, d2, d3] }
  | _ => none }
def ItvSidesWrongFalsely : Prop := itvSidesRow.holds Try.pinned (OpenSpec.ofChange itvSidesWrong)

/-- 'meddlerlaw2.ItvLands': WHATEVER THE INPUT: true; the input reads as it did. -/
def itvLandsSpec : ChangeSpec := { name := "itvLands", fn := fun _ => fun
  | [d1, d2, d3] => { results := [.lit (.bool true)], args := [d1, d2, d3] }
  | _ => none }
def itvLandsRow : OpenClaim := { program := "ytcmmchpofkoddaa", sum := "90a79b7ccd048eac047d9f7ac3e5bcbb387c5e3f97350e4cc103d25f372cb280", func := "meddler/meddlerlaw2.ItvLands", spec := "itvLands", unfollowed := true, recurses := true, apart := false }
def ItvLandsSaid : Prop := itvLandsRow.holds Try.pinned (OpenSpec.ofChange itvLandsSpec)

/-- ITS FALSE NEIGHBOUR: 'it returns false'. Refute it at one input. -/
def itvLandsWrong : ChangeSpec := { name := "itvLands", fn := fun _ => fun
  | [d1, d2, d3] => { results := [.lit (.bool false)], args := [d1, d2, d3] }
  | _ => none }
def ItvLandsWrongFalsely : Prop := itvLandsRow.holds Try.pinned (OpenSpec.ofChange itvLandsWrong)

/-- 'meddlerlaw2.ItvWidens': WHATEVER THE INPUT: true; the input reads as it did. -/
def itvWidensSpec : ChangeSpec := { name := "itvWidens", fn := fun _ => fun
  | [d1, d2] => { results := [.lit (.bool true)], args := [d1, d2] }
  | _ => none }
def itvWidensRow : OpenClaim := { program := "ytcmmchpofkoddaa", sum := "90a79b7ccd048eac047d9f7ac3e5bcbb387c5e3f97350e4cc103d25f372cb280", func := "meddler/meddlerlaw2.ItvWidens", spec := "itvWidens", unfollowed := true, recurses := true, apart := false }
def ItvWidensSaid : Prop := itvWidensRow.holds Try.pinned (OpenSpec.ofChange itvWidensSpec)

/-- ITS FALSE NEIGHBOUR: 'it returns false'. Refute it at one input. -/
def itvWidensWrong : ChangeSpec := { name := "itvWidens", fn := fun _ => fun
  | [d1, d2] => { results := [.lit (.bool false)], args := [d1, d2] }
  | _ => none }
def ItvWidensWrongFalsely : Prop := itvWidensRow.holds Try.pinned (OpenSpec.ofChange itvWidensWrong)

/-- 'meddlerlaw2.ItvSteers': WHATEVER THE INPUT: true; the input reads as it did. -/
def itvSteersSpec : ChangeSpec := { name := "itvSteers", fn := fun _ => fun
  | [d1, d2, d3, d4] => { results := [.lit (.bool true)], args := [d1, d2, d3, d4] }
  | _ => none }
def itvSteersRow : OpenClaim := { program := "ytcmmchpofkoddaa", sum := "90a79b7ccd048eac047d9f7ac3e5bcbb387c5e3f97350e4cc103d25f372cb280", func := "meddler/meddlerlaw2.ItvSteers", spec := "itvSteers", unfollowed := true, recurses := true, apart := false }
def ItvSteersSaid : Prop := itvSteersRow.holds Try.pinned (OpenSpec.ofChange itvSteersSpec)

/-- ITS FALSE NEIGHBOUR: 'it returns false'. Refute it at one input. -/
def itvSteersWrong : ChangeSpec := { name := "itvSteers", fn := fun _ => fun
  | [d1, d2, d3, d4] => { results := [.lit (.bool false)], args := [d1, d2, d3, d4] }
  | _ => none }
def ItvSteersWrongFalsely : Prop := itvSteersRow.holds Try.pinned (OpenSpec.ofChange itvSteersWrong)

/- THE SECOND FORM. 'bulk': how many values and letters a reading holds, each counted each time it is reached (what is shared counts as often as it is met; a slice's spare places count too). A statement '..UptoSaid' is the law's where the arguments, and the package variables that the reading takes, are together of bulk at most 1048576: NARROWER than '..Said'. Prove '..Said' where nothing that the law and all that it calls make is longer than what came in: it says more and counts as full. Else prove '..UptoSaid'. A law counts once. -/
mutual
def uptoBulk {H : Type} : DataW H → Nat
  | .lit (.string bytes) => bytes.length + 1
  | .lit _ => 1
  | .nil => 1
  | .ptr d => uptoBulk d + 1
  | .slice elems spare => uptoBulkAll elems + uptoBulkAll spare + 1
  | .agg parts => uptoBulkAll parts + 1
  | .iface _ d => uptoBulk d + 1
  | .map entries => uptoBulkEntries entries + 1
  | .held _ => 1
def uptoBulkAll {H : Type} : List (DataW H) → Nat
  | [] => 0
  | d :: r => uptoBulk d + uptoBulkAll r
def uptoBulkEntries {H : Type} : List (Lit × DataW H) → Nat
  | [] => 0
  | x :: r => uptoBulkEntry x + uptoBulkEntries r
def uptoBulkEntry {H : Type} : Lit × DataW H → Nat
  | (.string bytes, d) => bytes.length + uptoBulk d + 1
  | (_, d) => uptoBulk d + 1
 end
def uptoSmall : (H : Type) → List (DataW H) → Bool := fun _ ds => decide (uptoBulkAll ds ≤ 1048576)
def OpenSpec.upto (s : _root_.Go.ChangeSpec) : _root_.Go.OpenSpec := { _root_.Go.OpenSpec.ofChange s with cond := some uptoSmall }

/-- 'meddlerlaw2.ItvDoes', WHERE WHAT IT READS IS OF BULK AT MOST 1048576: true; the input reads as it did. -/
def itvDoesUptoRow : OpenClaim := { program := "ytcmmchpofkoddaa", sum := "90a79b7ccd048eac047d9f7ac3e5bcbb387c5e3f97350e4cc103d25f372cb280", func := "meddler/meddlerlaw2.ItvDoes", spec := "itvDoes", unfollowed := true, recurses := true, apart := false, narrowed := true }
def ItvDoesUptoSaid : Prop := itvDoesUptoRow.holds Try.pinned (OpenSpec.upto itvDoesSpec)

/-- 'meddlerlaw2.ItvSound', WHERE WHAT IT READS IS OF BULK AT MOST 1048576: true; the input reads as it did. -/
def itvSoundUptoRow : OpenClaim := { program := "ytcmmchpofkoddaa", sum := "90a79b7ccd048eac047d9f7ac3e5bcbb387c5e3f97350e4cc103d25f372cb280", func := "meddler/meddlerlaw2.ItvSound", spec := "itvSound", unfollowed := true, recurses := true, apart := false, narrowed := true }
def ItvSoundUptoSaid : Prop := itvSoundUptoRow.holds Try.pinned (OpenSpec.upto itvSoundSpec)

/-- 'meddlerlaw2.ItvOrders', WHERE WHAT IT READS IS OF BULK AT MOST 1048576: true; the input reads as it did. -/
def itvOrdersUptoRow : OpenClaim := { program := "ytcmmchpofkoddaa", sum := "90a79b7ccd048eac047d9f7ac3e5bcbb387c5e3f97350e4cc103d25f372cb280", func := "meddler/meddlerlaw2.ItvOrders", spec := "itvOrders", unfollowed := true, recurses := true, apart := false, narrowed := true }
def ItvOrdersUptoSaid : Prop := itvOrdersUptoRow.holds Try.pinned (OpenSpec.upto itvOrdersSpec)

/-- 'meddlerlaw2.ItvMore', WHERE WHAT IT READS IS OF BULK AT MOST 1048576: true; the input reads as it did. -/
def itvMoreUptoRow : OpenClaim := { program := "ytcmmchpofkoddaa", sum := "90a79b7ccd048eac047d9f7ac3e5bcbb387c5e3f97350e4cc103d25f372cb280", func := "meddler/meddlerlaw2.ItvMore", spec := "itvMore", unfollowed := true, recurses := true, apart := false, narrowed := true }
def ItvMoreUptoSaid : Prop := itvMoreUptoRow.holds Try.pinned (OpenSpec.upto itvMoreSpec)

/-- 'meddlerlaw2.ItvTight', WHERE WHAT IT READS IS OF BULK AT MOST 1048576: true; the input reads as it did. -/
def itvTightUptoRow : OpenClaim := { program := "ytcmmchpofkoddaa", sum := "90a79b7ccd048eac047d9f7ac3e5bcbb387c5e3f97350e4cc103d25f372cb280", func := "meddler/meddlerlaw2.ItvTight", spec := "itvTight", unfollowed := true, recurses := true, apart := false, narrowed := true }
def ItvTightUptoSaid : Prop := itvTightUptoRow.holds Try.pinned (OpenSpec.upto itvTightSpec)

/-- 'meddlerlaw2.ItvPoints', WHERE WHAT IT READS IS OF BULK AT MOST 1048576: true; the input reads as it did. -/
def itvPointsUptoRow : OpenClaim := { program := "ytcmmchpofkoddaa", sum := "90a79b7ccd048eac047d9f7ac3e5bcbb387c5e3f97350e4cc103d25f372cb280", func := "meddler/meddlerlaw2.ItvPoints", spec := "itvPoints", unfollowed := true, recurses := true, apart := false, narrowed := true }
def ItvPointsUptoSaid : Prop := itvPointsUptoRow.holds Try.pinned (OpenSpec.upto itvPointsSpec)

/-- 'meddlerlaw2.ItvOfs', WHERE WHAT IT READS IS OF BULK AT MOST 1048576: true; the input reads as it did. -/
def itvOfsUptoRow : OpenClaim := { program := "ytcmmchpofkoddaa", sum := "90a79b7ccd048eac047d9f7ac3e5bcbb387c5e3f97350e4cc103d25f372cb280", func := "meddler/meddlerlaw2.ItvOfs", spec := "itvOfs", unfollowed := true, recurses := true, apart := false, narrowed := true }
def ItvOfsUptoSaid : Prop := itvOfsUptoRow.holds Try.pinned (OpenSpec.upto itvOfsSpec)

/-- 'meddlerlaw2.ItvTells', WHERE WHAT IT READS IS OF BULK AT MOST 1048576: true; the input reads as it did. -/
def itvTellsUptoRow : OpenClaim := { program := "ytcmmchpofkoddaa", sum := "90a79b7ccd048eac047d9f7ac3e5bcbb387c5e3f97350e4cc103d25f372cb280", func := "meddler/meddlerlaw2.ItvTells", spec := "itvTells", unfollowed := true, recurses := true, apart := false, narrowed := true }
def ItvTellsUptoSaid : Prop := itvTellsUptoRow.holds Try.pinned (OpenSpec.upto itvTellsSpec)

/-- 'meddlerlaw2.ItvKeeps', WHERE WHAT IT READS IS OF BULK AT MOST 1048576: true; the input reads as it did. -/
def itvKeepsUptoRow : OpenClaim := { program := "ytcmmchpofkoddaa", sum := "90a79b7ccd048eac047d9f7ac3e5bcbb387c5e3f97350e4cc103d25f372cb280", func := "meddler/meddlerlaw2.ItvKeeps", spec := "itvKeeps", unfollowed := true, recurses := true, apart := false, narrowed := true }
def ItvKeepsUptoSaid : Prop := itvKeepsUptoRow.holds Try.pinned (OpenSpec.upto itvKeepsSpec)

/-- 'meddlerlaw2.ItvSides', WHERE WHAT IT READS IS OF BULK AT MOST 1048576: true; the input reads as it did. -/
def itvSidesUptoRow : OpenClaim := { program := "ytcmmchpofkoddaa", sum := "90a79b7ccd048eac047d9f7ac3e5bcbb387c5e3f97350e4cc103d25f372cb280", func := "meddler/meddlerlaw2.ItvSides", spec := "itvSides", unfollowed := true, recurses := true, apart := false, narrowed := true }
def ItvSidesUptoSaid : Prop := itvSidesUptoRow.holds Try.pinned (OpenSpec.upto itvSidesSpec)

/-- 'meddlerlaw2.ItvLands', WHERE WHAT IT READS IS OF BULK AT MOST 1048576: true; the input reads as it did. -/
def itvLandsUptoRow : OpenClaim := { program := "ytcmmchpofkoddaa", sum := "90a79b7ccd048eac047d9f7ac3e5bcbb387c5e3f97350e4cc103d25f372cb280", func := "meddler/meddlerlaw2.ItvLands", spec := "itvLands", unfollowed := true, recurses := true, apart := false, narrowed := true }
def ItvLandsUptoSaid : Prop := itvLandsUptoRow.holds Try.pinned (OpenSpec.upto itvLandsSpec)

/-- 'meddlerlaw2.ItvWidens', WHERE WHAT IT READS IS OF BULK AT MOST 1048576: true; the input reads as it did. -/
def itvWidensUptoRow : OpenClaim := { program := "ytcmmchpofkoddaa", sum := "90a79b7ccd048eac047d9f7ac3e5bcbb387c5e3f97350e4cc103d25f372cb280", func := "meddler/meddlerlaw2.ItvWidens", spec := "itvWidens", unfollowed := true, recurses := true, apart := false, narrowed := true }
def ItvWidensUptoSaid : Prop := itvWidensUptoRow.holds Try.pinned (OpenSpec.upto itvWidensSpec)

/-- 'meddlerlaw2.ItvSteers', WHERE WHAT IT READS IS OF BULK AT MOST 1048576: true; the input reads as it did. -/
def itvSteersUptoRow : OpenClaim := { program := "ytcmmchpofkoddaa", sum := "90a79b7ccd048eac047d9f7ac3e5bcbb387c5e3f97350e4cc103d25f372cb280", func := "meddler/meddlerlaw2.ItvSteers", spec := "itvSteers", unfollowed := true, recurses := true, apart := false, narrowed := true }
def ItvSteersUptoSaid : Prop := itvSteersUptoRow.holds Try.pinned (OpenSpec.upto itvSteersSpec)

end Rows
end Go.Proofs.Ytcmmchpofkoddaa
