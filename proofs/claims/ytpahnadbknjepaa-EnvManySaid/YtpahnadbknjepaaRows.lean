/-
  No cell of these rows narrows 'for every input' (looked for: loops, veiled, ifaces, maps, wideKeys, modest, calm, conditions, laid).
  DERIVED. THE GIVEN ROWS OF THIS SEAT. 5 by the template 'for every input the law returns true; each argument reads behind the call as it read before'; 0 by the template 'total and deterministic' (their statements: YtpahnadbknjepaaTotals.lean).
  GIVEN WITH THE SEED: the statements are not yours to turn. If you find one false, say at which input.
  Laid BY PROGRAM, IN A SANDBOX (cutbox-rows.mjs): the forced cells as the released guide's own fill.sh prints them over the translation 671ef3b64d53c27a… (all of the seat's roots in one cut). By AI agents, Wed Nov 11 2026. No macro, syntax, notation, axiom, sorry.
-/
import Derived.Test.YtpahnadbknjepaaChecked
import GoSem.Claim
import GoSem.ClaimJoined
import GoSem.ClaimMapViews
import Derived.JoinedTies
import Derived.KernelRfl
namespace Go.Proofs.Ytpahnadbknjepaa
/- THE CELL 'sum', in the pinned program and in every row, IS THE sha256 OF THE DUMP (.gsa) THAT YtpahnadbknjepaaProg.lean LOADS. Nothing in Lean hashes anything: it is a label: what it is worth is what the hold of that sum in a sandbox is worth. -/
noncomputable def Try.pinned : Pinned := { name := "ytpahnadbknjepaa", sum := "671ef3b64d53c27a60eabe368d18a3706090821c891cde5d26d173d59b09dfbb", checked := Try.checked }
namespace Rows
def none {H : Type} : Left H := { results := [], args := [] }

/-- 'meddlerlaw11.EnvMany': WHATEVER THE INPUT: true; the input reads as it did. -/
def envManySpec : ChangeSpec := { name := "envMany", fn := fun _ => fun
  | [d] => { results := [.lit (.bool true)], args := [d] }
  | _ => none }
def envManyRow : OpenClaim := { program := "ytpahnadbknjepaa", sum := "671ef3b64d53c27a60eabe368d18a3706090821c891cde5d26d173d59b09dfbb", func := "meddler/meddlerlaw11.EnvMany", spec := "envMany", unfollowed := true, recurses := true, apart := false }
def EnvManySaid : Prop := envManyRow.holds Try.pinned (OpenSpec.ofChange envManySpec)

/-- ITS FALSE NEIGHBOUR: 'it returns false'. Refute it at one input. -/
def envManyWrong : ChangeSpec := { name := "envMany", fn := fun _ => fun
  | [d] => { results := [.lit (.bool false)], args := [d] }
  | _ => none }
def EnvManyWrongFalsely : Prop := envManyRow.holds Try.pinned (OpenSpec.ofChange envManyWrong)

/-- 'meddlerlaw11.EnvOrders': WHATEVER THE INPUT: true; the input reads as it did. -/
def envOrdersSpec : ChangeSpec := { name := "envOrders", fn := fun _ => fun
  | [d1, d2, d3, d4, d5] => { results := [.lit (.bool true)], args := [d1, d2, d3, d4, d5] }
  | _ => none }
def envOrdersRow : OpenClaim := { program := "ytpahnadbknjepaa", sum := "671ef3b64d53c27a60eabe368d18a3706090821c891cde5d26d173d59b09dfbb", func := "meddler/meddlerlaw11.EnvOrders", spec := "envOrders", unfollowed := true, recurses := true, apart := false }
def EnvOrdersSaid : Prop := envOrdersRow.holds Try.pinned (OpenSpec.ofChange envOrdersSpec)

/-- ITS FALSE NEIGHBOUR: 'it returns false'. Refute it at one input. -/
def envOrdersWrong : ChangeSpec := { name := "envOrders", fn := fun _ => fun
  | [d1, d2, d3, d4, d5] => { results := [.lit (.bool false)], args := [d1, d2, d3, d4, d5] }
  | _ => none }
def EnvOrdersWrongFalsely : Prop := envOrdersRow.holds Try.pinned (OpenSpec.ofChange envOrdersWrong)

/-- 'meddlerlaw11.EnvAbove': WHATEVER THE INPUT: true; the input reads as it did. -/
def envAboveSpec : ChangeSpec := { name := "envAbove", fn := fun _ => fun
  | [d1, d2, d3, d4, d5] => { results := [.lit (.bool true)], args := [d1, d2, d3, d4, d5] }
  | _ => none }
def envAboveRow : OpenClaim := { program := "ytpahnadbknjepaa", sum := "671ef3b64d53c27a60eabe368d18a3706090821c891cde5d26d173d59b09dfbb", func := "meddler/meddlerlaw11.EnvAbove", spec := "envAbove", unfollowed := true, recurses := true, apart := false }
def EnvAboveSaid : Prop := envAboveRow.holds Try.pinned (OpenSpec.ofChange envAboveSpec)

/-- ITS FALSE NEIGHBOUR: 'it returns false'. Refute it at one input. -/
def envAboveWrong : ChangeSpec := { name := "envAbove", fn := fun _ => fun
  | [d1, d2, d3, d4, d5] => { results := [.lit (.bool false)], args := [d1, d2, d3, d4, d5] }
  | _ => none }
def EnvAboveWrongFalsely : Prop := envAboveRow.holds Try.pinned (OpenSpec.ofChange envAboveWrong)

/-- 'meddlerlaw11.EnvTells': WHATEVER THE INPUT: true; the input reads as it did. -/
def envTellsSpec : ChangeSpec := { name := "envTells", fn := fun _ => fun
  | [d1, d2, d3, d4, d5] => { results := [.lit (.bool true)], args := [d1, d2, d3, d4, d5] }
  | _ => none }
def envTellsRow : OpenClaim := { program := "ytpahnadbknjepaa", sum := "671ef3b64d53c27a60eabe368d18a3706090821c891cde5d26d173d59b09dfbb", func := "meddler/meddlerlaw11.EnvTells", spec := "envTells", unfollowed := true, recurses := true, apart := false }
def EnvTellsSaid : Prop := envTellsRow.holds Try.pinned (OpenSpec.ofChange envTellsSpec)

/-- ITS FALSE NEIGHBOUR: 'it returns false'. Refute it at one input. -/
def envTellsWrong : ChangeSpec := { name := "envTells", fn := fun _ => fun
  | [d1, d2, d3, d4, d5] => { results := [.lit (.bool false)], args := [d1, d2, d3, d4, d5] }
  | _ => none }
def EnvTellsWrongFalsely : Prop := envTellsRow.holds Try.pinned (OpenSpec.ofChange envTellsWrong)

/-- 'meddlerlaw11.EnvGrows': WHATEVER THE INPUT: true; the input reads as it did. -/
def envGrowsSpec : ChangeSpec := { name := "envGrows", fn := fun _ => fun
  | [d1, d2] => { results := [.lit (.bool true)], args := [d1, d2] }
  | _ => none }
def envGrowsRow : OpenClaim := { program := "ytpahnadbknjepaa", sum := "671ef3b64d53c27a60eabe368d18a3706090821c891cde5d26d173d59b09dfbb", func := "meddler/meddlerlaw11.EnvGrows", spec := "envGrows", unfollowed := true, recurses := true, apart := false }
def EnvGrowsSaid : Prop := envGrowsRow.holds Try.pinned (OpenSpec.ofChange envGrowsSpec)

/-- ITS FALSE NEIGHBOUR: 'it returns false'. Refute it at one input. -/
def envGrowsWrong : ChangeSpec := { name := "envGrows", fn := fun _ => fun
  | [d1, d2] => { results := [.lit (.bool false)], args := [d1, d2] }
  | _ => none }
def EnvGrowsWrongFalsely : Prop := envGrowsRow.holds Try.pinned (OpenSpec.ofChange envGrowsWrong)

/- THE SECOND FORM. 'bulk': how many values and letters a reading holds, each counted each time it is reached (what is shared counts as often as it is met; a slice's spare places count too). A statement '..UptoSaid' is the law's where the arguments, and the package variables that the reading takes, are together of bulk at most 1048576: NARROWER than '..Said'. Prove '..Said' where nothing that the law and all that it calls make is longer than what came in: it says more and counts as full. Else prove '..UptoSaid'. A law counts once. -/
mutual
def uptoBulk {H : Type} : DataW H → Nat
  | .lit (.string bytes) => bytes.length + 1
  | .lit _ => 1
  | .nil => 1
  | .ptr d => uptoBulk d + 1
  | .slice elems spare => uptoBulkAll elems + uptoBulkAll spare + 1
  | .agg parts => uptoBulkAll parts + 1
  | .iface _ d => uptoBulk d + 1
  | .map entries => uptoBulkEntries entries + 1
  | .held _ => 1
def uptoBulkAll {H : Type} : List (DataW H) → Nat
  | [] => 0
  | d :: r => uptoBulk d + uptoBulkAll r
def uptoBulkEntries {H : Type} : List (Lit × DataW H) → Nat
  | [] => 0
  | x :: r => uptoBulkEntry x + uptoBulkEntries r
def uptoBulkEntry {H : Type} : Lit × DataW H → Nat
  | (.string bytes, d) => bytes.length + uptoBulk d + 1
  | (_, d) => uptoBulk d + 1
 end
def uptoSmall : (H : Type) → List (DataW H) → Bool := fun _ ds => decide (uptoBulkAll ds ≤ 1048576)
def OpenSpec.upto (s : _root_.Go.ChangeSpec) : _root_.Go.OpenSpec := { _root_.Go.OpenSpec.ofChange s with cond := some uptoSmall }

/-- 'meddlerlaw11.EnvMany', WHERE WHAT IT READS IS OF BULK AT MOST 1048576: true; the input reads as it did. -/
def envManyUptoRow : OpenClaim := { program := "ytpahnadbknjepaa", sum := "671ef3b64d53c27a60eabe368d18a3706090821c891cde5d26d173d59b09dfbb", func := "meddler/meddlerlaw11.EnvMany", spec := "envMany", unfollowed := true, recurses := true, apart := false, narrowed := true }
def EnvManyUptoSaid : Prop := envManyUptoRow.holds Try.pinned (OpenSpec.upto envManySpec)

/-- 'meddlerlaw11.EnvOrders', WHERE WHAT IT READS IS OF BULK AT MOST 1048576: true; the input reads as it did. -/
def envOrdersUptoRow : OpenClaim := { program := "ytpahnadbknjepaa", sum := "671ef3b64d53c27a60eabe368d18a3706090821c891cde5d26d173d59b09dfbb", func := "meddler/meddlerlaw11.EnvOrders", spec := "envOrders", unfollowed := true, recurses := true, apart := false, narrowed := true }
def EnvOrdersUptoSaid : Prop := envOrdersUptoRow.holds Try.pinned (OpenSpec.upto envOrdersSpec)

/-- 'meddlerlaw11.EnvAbove', WHERE WHAT IT READS IS OF BULK AT MOST 1048576: true; the input reads as it did. -/
def envAboveUptoRow : OpenClaim := { program := "ytpahnadbknjepaa", sum := "671ef3b64d53c27a60eabe368d18a3706090821c891cde5d26d173d59b09dfbb", func := "meddler/meddlerlaw11.EnvAbove", spec := "envAbove", unfollowed := true, recurses := true, apart := false, narrowed := true }
def EnvAboveUptoSaid : Prop := envAboveUptoRow.holds Try.pinned (OpenSpec.upto envAboveSpec)

/-- 'meddlerlaw11.EnvTells', WHERE WHAT IT READS IS OF BULK AT MOST 1048576: true; the input reads as it did. -/
def envTellsUptoRow : OpenClaim := { program := "ytpahnadbknjepaa", sum := "671ef3b64d53c27a60eabe368d18a3706090821c891cde5d26d173d59b09dfbb", func := "meddler/meddlerlaw11.EnvTells", spec := "envTells", unfollowed := true, recurses := true, apart := false, narrowed := true }
def EnvTellsUptoSaid : Prop := envTellsUptoRow.holds Try.pinned (OpenSpec.upto envTellsSpec)

/-- 'meddlerlaw11.EnvGrows', WHERE WHAT IT READS IS OF BULK AT MOST 1048576: true; the input reads as it did. -/
def envGrowsUptoRow : OpenClaim := { program := "ytpahnadbknjepaa", sum := "671ef3b64d53c27a60eabe368d18a3706090821c891cde5d26d173d59b09dfbb", func := "meddler/meddlerlaw11.EnvGrows", spec := "envGrows", unfollowed := true, recurses := true, apart := false, narrowed := true }
def EnvGrowsUptoSaid : Prop := envGrowsUptoRow.holds Try.pinned (OpenSpec.upto envGrowsSpec)

end Rows
end Go.Proofs.Ytpahnadbknjepaa
