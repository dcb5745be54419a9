/-
  NARROWER THAN 'FOR EVERY INPUT', by the rows' own cells (each row's printed sentence says how): CheckTells: loops, laid · CfgLowers: loops, laid · CfgMay: laid · CfgNumbers: laid · CfgHeads: laid.
  DERIVED. THE GIVEN ROWS OF THIS SEAT. 5 by the template 'for every input the law returns true; each argument reads behind the call as it read before'; 0 by the template 'total and deterministic' (their statements: YtmjbedjnojcmfaaGreatDoorTotals.lean).
  GIVEN WITH THE SEED: the statements are not yours to turn. If you find one false, say at which input.
  Laid BY PROGRAM, IN A SANDBOX (cutbox-rows.mjs): the forced cells as the released guide's own fill.sh prints them over the translation 5884ffea8ce09086… (all of the seat's roots in one cut). By AI agents, Wed Nov 11 2026. No macro, syntax, notation, axiom, sorry.
-/
import Derived.Test.YtmjbedjnojcmfaaGreatDoorChecked
import GoSem.PinnedTables
import GoSem.Claim
import GoSem.ClaimJoined
import GoSem.ClaimMapViews
import Derived.JoinedTies
import Derived.KernelRfl
namespace Go.Proofs.YtmjbedjnojcmfaaGreatDoor
/- THE CELL 'sum', in the pinned program and in every row, IS THE sha256 OF THE DUMP (.gsa) THAT YtmjbedjnojcmfaaGreatDoorProg.lean LOADS. Nothing in Lean hashes anything: it is a label: what it is worth is what the hold of that sum in a sandbox is worth. -/
noncomputable def Tryz.pinned : Pinned := { name := "ytmjbedjnojcmfaagreatdoor", sum := "5884ffea8ce0908648b0e35bd761153b8597dc0e06d1a98f2335942e2d499d6a", checked := Tryz.checked }
namespace Rows
def none {H : Type} : Left H := { results := [], args := [] }

/- WHAT THE LISTED PACKAGE-LEVEL VARIABLES READ AS WHEN THE CALL BEGINS. Each datum BY PROGRAM (the guide's laid-datum.mjs) off the statement by which the dump's own 'gosem.cut.vars' lays the variable. In a bare row this is a premise. The card (YtmjbedjnojcmfaaGreatDoorCards.lean) ties it to the program's text. -/
def laid_unicode_utf8_acceptRanges {H : Type} : DataW H := .agg [.agg [.lit (.int .u8 128), .lit (.int .u8 191)], .agg [.lit (.int .u8 160), .lit (.int .u8 191)], .agg [.lit (.int .u8 128), .lit (.int .u8 159)], .agg [.lit (.int .u8 144), .lit (.int .u8 191)], .agg [.lit (.int .u8 128), .lit (.int .u8 143)], .agg [.lit (.int .u8 0), .lit (.int .u8 0)], .agg [.lit (.int .u8 0), .lit (.int .u8 0)], .agg [.lit (.int .u8 0), .lit (.int .u8 0)], .agg [.lit (.int .u8 0), .lit (.int .u8 0)], .agg [.lit (.int .u8 0), .lit (.int .u8 0)], .agg [.lit (.int .u8 0), .lit (.int .u8 0)], .agg [.lit (.int .u8 0), .lit (.int .u8 0)], .agg [.lit (.int .u8 0), .lit (.int .u8 0)], .agg [.lit (.int .u8 0), .lit (.int .u8 0)], .agg [.lit (.int .u8 0), .lit (.int .u8 0)], .agg [.lit (.int .u8 0), .lit (.int .u8 0)]]
/-- One of Go's own tables, pinned by name: the form's constant. -/
def laid_unicode_utf8_first : DataW Unit := Go.Pinned.utf8First

/-- 'meddlerlaw7.CheckTells': WHATEVER THE INPUT: true; the input reads as it did. -/
def checkTellsSpec : ChangeSpec := { name := "checkTells", fn := fun _ => fun
  | [d1, d2, d3] => { results := [.lit (.bool true)], args := [d1, d2, d3] }
  | _ => none }
def checkTellsRow : OpenClaim := { program := "ytmjbedjnojcmfaagreatdoor", sum := "5884ffea8ce0908648b0e35bd761153b8597dc0e06d1a98f2335942e2d499d6a", func := "meddler/meddlerlaw7.CheckTells", spec := "checkTells", inPlace := ["internal/bytealg.IndexByteString", "internal/bytealg.IndexString"], unfollowed := true, recurses := true, named := ["unicode/utf8.first", "unicode/utf8.acceptRanges", "internal/bytealg.MaxLen"], loops := true, apart := false, laid := [("unicode/utf8.acceptRanges", laid_unicode_utf8_acceptRanges), ("unicode/utf8.first", laid_unicode_utf8_first)] }
def CheckTellsSaid : Prop := checkTellsRow.holds Tryz.pinned (OpenSpec.ofChange checkTellsSpec)

/-- ITS FALSE NEIGHBOUR: 'it returns false'. Refute it at one input. -/
def checkTellsWrong : ChangeSpec := { name := "checkTells", fn := fun _ => fun
  | [d1, d2, d3] => { results := [.lit (.bool false)], args := [d1, d2, d3] }
  | _ => none }
def CheckTellsWrongFalsely : Prop := checkTellsRow.holds Tryz.pinned (OpenSpec.ofChange checkTellsWrong)

/-- 'meddlerlaw8.CfgLowers': WHATEVER THE INPUT: true; the input reads as it did. -/
def cfgLowersSpec : ChangeSpec := { name := "cfgLowers", fn := fun _ => fun
  | [d] => { results := [.lit (.bool true)], args := [d] }
  | _ => none }
def cfgLowersRow : OpenClaim := { program := "ytmjbedjnojcmfaagreatdoor", sum := "5884ffea8ce0908648b0e35bd761153b8597dc0e06d1a98f2335942e2d499d6a", func := "meddler/meddlerlaw8.CfgLowers", spec := "cfgLowers", inPlace := ["internal/bytealg.IndexByteString", "internal/bytealg.IndexString"], unfollowed := true, recurses := true, named := ["unicode/utf8.first", "unicode/utf8.acceptRanges", "internal/bytealg.MaxLen"], loops := true, apart := false, laid := [("unicode/utf8.acceptRanges", laid_unicode_utf8_acceptRanges), ("unicode/utf8.first", laid_unicode_utf8_first)] }
def CfgLowersSaid : Prop := cfgLowersRow.holds Tryz.pinned (OpenSpec.ofChange cfgLowersSpec)

/-- ITS FALSE NEIGHBOUR: 'it returns false'. Refute it at one input. -/
def cfgLowersWrong : ChangeSpec := { name := "cfgLowers", fn := fun _ => fun
  | [d] => { results := [.lit (.bool false)], args := [d] }
  | _ => none }
def CfgLowersWrongFalsely : Prop := cfgLowersRow.holds Tryz.pinned (OpenSpec.ofChange cfgLowersWrong)

/-- 'meddlerlaw8.CfgMay': WHATEVER THE INPUT: true; the input reads as it did. -/
def cfgMaySpec : ChangeSpec := { name := "cfgMay", fn := fun _ => fun
  | [d1, d2] => { results := [.lit (.bool true)], args := [d1, d2] }
  | _ => none }
def cfgMayRow : OpenClaim := { program := "ytmjbedjnojcmfaagreatdoor", sum := "5884ffea8ce0908648b0e35bd761153b8597dc0e06d1a98f2335942e2d499d6a", func := "meddler/meddlerlaw8.CfgMay", spec := "cfgMay", inPlace := ["internal/bytealg.IndexByteString", "internal/bytealg.IndexString"], unfollowed := true, recurses := true, named := ["unicode/utf8.first", "unicode/utf8.acceptRanges", "internal/bytealg.MaxLen"], apart := false, laid := [("unicode/utf8.acceptRanges", laid_unicode_utf8_acceptRanges), ("unicode/utf8.first", laid_unicode_utf8_first)] }
def CfgMaySaid : Prop := cfgMayRow.holds Tryz.pinned (OpenSpec.ofChange cfgMaySpec)

/-- ITS FALSE NEIGHBOUR: 'it returns false'. Refute it at one input. -/
def cfgMayWrong : ChangeSpec := { name := "cfgMay", fn := fun _ => fun
  | [d1, d2] => { results := [.lit (.bool false)], args := [d1, d2] }
  | _ => none }
def CfgMayWrongFalsely : Prop := cfgMayRow.holds Tryz.pinned (OpenSpec.ofChange cfgMayWrong)

/-- 'meddlerlaw8.CfgNumbers': WHATEVER THE INPUT: true; the input reads as it did. -/
def cfgNumbersSpec : ChangeSpec := { name := "cfgNumbers", fn := fun _ => fun
  | [d] => { results := [.lit (.bool true)], args := [d] }
  | _ => none }
def cfgNumbersRow : OpenClaim := { program := "ytmjbedjnojcmfaagreatdoor", sum := "5884ffea8ce0908648b0e35bd761153b8597dc0e06d1a98f2335942e2d499d6a", func := "meddler/meddlerlaw8.CfgNumbers", spec := "cfgNumbers", inPlace := ["internal/bytealg.IndexByteString", "internal/bytealg.IndexString"], unfollowed := true, recurses := true, named := ["unicode/utf8.first", "unicode/utf8.acceptRanges", "internal/bytealg.MaxLen"], apart := false, laid := [("unicode/utf8.acceptRanges", laid_unicode_utf8_acceptRanges), ("unicode/utf8.first", laid_unicode_utf8_first)] }
def CfgNumbersSaid : Prop := cfgNumbersRow.holds Tryz.pinned (OpenSpec.ofChange cfgNumbersSpec)

/-- ITS FALSE NEIGHBOUR: 'it returns false'. Refute it at one input. -/
def cfgNumbersWrong : ChangeSpec := { name := "cfgNumbers", fn := fun _ => fun
  | [d] => { results := [.lit (.bool false)], args := [d] }
  | _ => none }
def CfgNumbersWrongFalsely : Prop := cfgNumbersRow.holds Tryz.pinned (OpenSpec.ofChange cfgNumbersWrong)

/-- 'meddlerlaw8.CfgHeads': WHATEVER THE INPUT: true; the input reads as it did. -/
def cfgHeadsSpec : ChangeSpec := { name := "cfgHeads", fn := fun _ => fun
  | [d] => { results := [.lit (.bool true)], args := [d] }
  | _ => none }
def cfgHeadsRow : OpenClaim := { program := "ytmjbedjnojcmfaagreatdoor", sum := "5884ffea8ce0908648b0e35bd761153b8597dc0e06d1a98f2335942e2d499d6a", func := "meddler/meddlerlaw8.CfgHeads", spec := "cfgHeads", inPlace := ["internal/bytealg.IndexByteString", "internal/bytealg.IndexString"], unfollowed := true, recurses := true, named := ["unicode/utf8.first", "unicode/utf8.acceptRanges", "internal/bytealg.MaxLen"], apart := false, laid := [("unicode/utf8.acceptRanges", laid_unicode_utf8_acceptRanges), ("unicode/utf8.first", laid_unicode_utf8_first)] }
def CfgHeadsSaid : Prop := cfgHeadsRow.holds Tryz.pinned (OpenSpec.ofChange cfgHeadsSpec)

/-- ITS FALSE NEIGHBOUR: 'it returns false'. Refute it at one input. -/
def cfgHeadsWrong : ChangeSpec := { name := "cfgHeads", fn := fun _ => fun
  | [d] => { results := [.lit (.bool false)], args := [d] }
  | _ => none }
def CfgHeadsWrongFalsely : Prop := cfgHeadsRow.holds Tryz.pinned (OpenSpec.ofChange cfgHeadsWrong)

/- THE SECOND FORM. 'bulk': how many values and letters a reading holds, each counted each time it is reached (what is shared counts as often as it is met; a slice's spare places count too). A statement '..UptoSaid' is the law's where the arguments, and the package variables that the reading takes, are together of bulk at most 1048576: NARROWER than '..Said'. Prove '..Said' where nothing that the law and all that it calls make is longer than what came in: it says more and counts as full. Else prove '..UptoSaid'. A law counts once. -/
mutual
def uptoBulk {H : Type} : DataW H → Nat
  | .lit (.string bytes) => bytes.length + 1
  | .lit _ => 1
  | .nil => 1
  | .ptr d => uptoBulk d + 1
  | .slice elems spare => uptoBulkAll elems + uptoBulkAll spare + 1
  | .agg parts => uptoBulkAll parts + 1
  | .iface _ d => uptoBulk d + 1
  | .map entries => uptoBulkEntries entries + 1
  | .held _ => 1
def uptoBulkAll {H : Type} : List (DataW H) → Nat
  | [] => 0
  | d :: r => uptoBulk d + uptoBulkAll r
def uptoBulkEntries {H : Type} : List (Lit × DataW H) → Nat
  | [] => 0
  | x :: r => uptoBulkEntry x + uptoBulkEntries r
def uptoBulkEntry {H : Type} : Lit × DataW H → Nat
  | (.string bytes, d) => bytes.length + uptoBulk d + 1
  | (_, d) => uptoBulk d + 1
 end
def uptoSmall : (H : Type) → List (DataW H) → Bool := fun _ ds => decide (uptoBulkAll ds ≤ 1048576)
def OpenSpec.upto (s : _root_.Go.ChangeSpec) : _root_.Go.OpenSpec := { _root_.Go.OpenSpec.ofChange s with cond := some uptoSmall }

/-- 'meddlerlaw7.CheckTells', WHERE WHAT IT READS IS OF BULK AT MOST 1048576: true; the input reads as it did. -/
def checkTellsUptoRow : OpenClaim := { program := "ytmjbedjnojcmfaagreatdoor", sum := "5884ffea8ce0908648b0e35bd761153b8597dc0e06d1a98f2335942e2d499d6a", func := "meddler/meddlerlaw7.CheckTells", spec := "checkTells", inPlace := ["internal/bytealg.IndexByteString", "internal/bytealg.IndexString"], unfollowed := true, recurses := true, named := ["unicode/utf8.first", "unicode/utf8.acceptRanges", "internal/bytealg.MaxLen"], loops := true, apart := false, laid := [("unicode/utf8.acceptRanges", laid_unicode_utf8_acceptRanges), ("unicode/utf8.first", laid_unicode_utf8_first)], narrowed := true }
def CheckTellsUptoSaid : Prop := checkTellsUptoRow.holds Tryz.pinned (OpenSpec.upto checkTellsSpec)

/-- 'meddlerlaw8.CfgLowers', WHERE WHAT IT READS IS OF BULK AT MOST 1048576: true; the input reads as it did. -/
def cfgLowersUptoRow : OpenClaim := { program := "ytmjbedjnojcmfaagreatdoor", sum := "5884ffea8ce0908648b0e35bd761153b8597dc0e06d1a98f2335942e2d499d6a", func := "meddler/meddlerlaw8.CfgLowers", spec := "cfgLowers", inPlace := ["internal/bytealg.IndexByteString", "internal/bytealg.IndexString"], unfollowed := true, recurses := true, named := ["unicode/utf8.first", "unicode/utf8.acceptRanges", "internal/bytealg.MaxLen"], loops := true, apart := false, laid := [("unicode/utf8.acceptRanges", laid_unicode_utf8_acceptRanges), ("unicode/utf8.first", laid_unicode_utf8_first)], narrowed := true }
def CfgLowersUptoSaid : Prop := cfgLowersUptoRow.holds Tryz.pinned (OpenSpec.upto cfgLowersSpec)

/-- 'meddlerlaw8.CfgMay', WHERE WHAT IT READS IS OF BULK AT MOST 1048576: true; the input reads as it did. -/
def cfgMayUptoRow : OpenClaim := { program := "ytmjbedjnojcmfaagreatdoor", sum := "5884ffea8ce0908648b0e35bd761153b8597dc0e06d1a98f2335942e2d499d6a", func := "meddler/meddlerlaw8.CfgMay", spec := "cfgMay", inPlace := ["internal/bytealg.IndexByteString", "internal/bytealg.IndexString"], unfollowed := true, recurses := true, named := ["unicode/utf8.first", "unicode/utf8.acceptRanges", "internal/bytealg.MaxLen"], apart := false, laid := [("unicode/utf8.acceptRanges", laid_unicode_utf8_acceptRanges), ("unicode/utf8.first", laid_unicode_utf8_first)], narrowed := true }
def CfgMayUptoSaid : Prop := cfgMayUptoRow.holds Tryz.pinned (OpenSpec.upto cfgMaySpec)

/-- 'meddlerlaw8.CfgNumbers', WHERE WHAT IT READS IS OF BULK AT MOST 1048576: true; the input reads as it did. -/
def cfgNumbersUptoRow : OpenClaim := { program := "ytmjbedjnojcmfaagreatdoor", sum := "5884ffea8ce0908648b0e35bd761153b8597dc0e06d1a98f2335942e2d499d6a", func := "meddler/meddlerlaw8.CfgNumbers", spec := "cfgNumbers", inPlace := ["internal/bytealg.IndexByteString", "internal/bytealg.IndexString"], unfollowed := true, recurses := true, named := ["unicode/utf8.first", "unicode/utf8.acceptRanges", "internal/bytealg.MaxLen"], apart := false, laid := [("unicode/utf8.acceptRanges", laid_unicode_utf8_acceptRanges), ("unicode/utf8.first", laid_unicode_utf8_first)], narrowed := true }
def CfgNumbersUptoSaid : Prop := cfgNumbersUptoRow.holds Tryz.pinned (OpenSpec.upto cfgNumbersSpec)

/-- 'meddlerlaw8.CfgHeads', WHERE WHAT IT READS IS OF BULK AT MOST 1048576: true; the input reads as it did. -/
def cfgHeadsUptoRow : OpenClaim := { program := "ytmjbedjnojcmfaagreatdoor", sum := "5884ffea8ce0908648b0e35bd761153b8597dc0e06d1a98f2335942e2d499d6a", func := "meddler/meddlerlaw8.CfgHeads", spec := "cfgHeads", inPlace := ["internal/bytealg.IndexByteString", "internal/bytealg.IndexString"], unfollowed := true, recurses := true, named := ["unicode/utf8.first", "unicode/utf8.acceptRanges", "internal/bytealg.MaxLen"], apart := false, laid := [("unicode/utf8.acceptRanges", laid_unicode_utf8_acceptRanges), ("unicode/utf8.first", laid_unicode_utf8_first)], narrowed := true }
def CfgHeadsUptoSaid : Prop := cfgHeadsUptoRow.holds Tryz.pinned (OpenSpec.upto cfgHeadsSpec)

end Rows
end Go.Proofs.YtmjbedjnojcmfaaGreatDoor
