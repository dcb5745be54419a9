/-
  DERIVED. GIVEN WITH THE SEED: THE CARDS: each row of YtmjbedjnojcmfaaGreatDoorRows.lean that lists a variable, with what it lists TIED to the program's text (the seventh form; the later family's looks); each row that meets fmt, with fmt's text TOLD by the authors' own Lean function (tested against real Go, not proved from fmt's source: count such statements apart). THE CARD IS WHAT COUNTS. Prove the row's statement (the work); the ties are given (YtmjbedjnojcmfaaGreatDoorTie.lean); close each card by the builder's one call (the guide's Derived/Test/ToyasCard.lean, 'card_holds'). Laid BY PROGRAM, IN A SANDBOX (cutbox-door.mjs). By AI agents, Wed Nov 11 2026. No macro, syntax, notation, axiom, sorry.
-/
import Derived.Test.YtmjbedjnojcmfaaGreatDoorRows
import GoSem.ClaimSeven
namespace Go.Proofs.YtmjbedjnojcmfaaGreatDoor
namespace Rows

/-- THE TIED CARD OF 'meddlerlaw7.CheckTells'. -/
def checkTellsCard : Claim7 := { stood := { row := checkTellsRow, standIns := [], harness := (true, "7b8db522326e7bb989976adb39720ebe7cce5c6f2d7ba34d08cf3b2cf3e75b7b"), looks := false }, kinds := [], alts := [], laidByText := true, laidKinds := [.data, .pinned], laidTests := true, laidLooks := .later }
def CheckTellsCardSaid : Prop := Claim7.holds Tryz.pinned (.plain (OpenSpec.ofChange checkTellsSpec)) checkTellsCard

/-- THE TIED CARD OF 'meddlerlaw8.CfgLowers'. -/
def cfgLowersCard : Claim7 := { stood := { row := cfgLowersRow, standIns := [], harness := (true, "7b8db522326e7bb989976adb39720ebe7cce5c6f2d7ba34d08cf3b2cf3e75b7b"), looks := false }, kinds := [], alts := [], laidByText := true, laidKinds := [.data, .pinned], laidTests := true, laidLooks := .later }
def CfgLowersCardSaid : Prop := Claim7.holds Tryz.pinned (.plain (OpenSpec.ofChange cfgLowersSpec)) cfgLowersCard

/-- THE TIED CARD OF 'meddlerlaw8.CfgMay'. -/
def cfgMayCard : Claim7 := { stood := { row := cfgMayRow, standIns := [], harness := (true, "7b8db522326e7bb989976adb39720ebe7cce5c6f2d7ba34d08cf3b2cf3e75b7b"), looks := false }, kinds := [], alts := [], laidByText := true, laidKinds := [.data, .pinned], laidTests := true, laidLooks := .later }
def CfgMayCardSaid : Prop := Claim7.holds Tryz.pinned (.plain (OpenSpec.ofChange cfgMaySpec)) cfgMayCard

/-- THE TIED CARD OF 'meddlerlaw8.CfgNumbers'. -/
def cfgNumbersCard : Claim7 := { stood := { row := cfgNumbersRow, standIns := [], harness := (true, "7b8db522326e7bb989976adb39720ebe7cce5c6f2d7ba34d08cf3b2cf3e75b7b"), looks := false }, kinds := [], alts := [], laidByText := true, laidKinds := [.data, .pinned], laidTests := true, laidLooks := .later }
def CfgNumbersCardSaid : Prop := Claim7.holds Tryz.pinned (.plain (OpenSpec.ofChange cfgNumbersSpec)) cfgNumbersCard

/-- THE TIED CARD OF 'meddlerlaw8.CfgHeads'. -/
def cfgHeadsCard : Claim7 := { stood := { row := cfgHeadsRow, standIns := [], harness := (true, "7b8db522326e7bb989976adb39720ebe7cce5c6f2d7ba34d08cf3b2cf3e75b7b"), looks := false }, kinds := [], alts := [], laidByText := true, laidKinds := [.data, .pinned], laidTests := true, laidLooks := .later }
def CfgHeadsCardSaid : Prop := Claim7.holds Tryz.pinned (.plain (OpenSpec.ofChange cfgHeadsSpec)) cfgHeadsCard

/-- THE SECOND FORM's CARD OF 'meddlerlaw7.CheckTells'. -/
def checkTellsUptoCard : Claim7 := { stood := { row := checkTellsUptoRow, standIns := [], harness := (true, "7b8db522326e7bb989976adb39720ebe7cce5c6f2d7ba34d08cf3b2cf3e75b7b"), looks := false }, kinds := [], alts := [], laidByText := true, laidKinds := [.data, .pinned], laidTests := true, laidLooks := .later }
def CheckTellsUptoCardSaid : Prop := Claim7.holds Tryz.pinned (.plain (OpenSpec.upto checkTellsSpec)) checkTellsUptoCard

/-- THE SECOND FORM's CARD OF 'meddlerlaw8.CfgLowers'. -/
def cfgLowersUptoCard : Claim7 := { stood := { row := cfgLowersUptoRow, standIns := [], harness := (true, "7b8db522326e7bb989976adb39720ebe7cce5c6f2d7ba34d08cf3b2cf3e75b7b"), looks := false }, kinds := [], alts := [], laidByText := true, laidKinds := [.data, .pinned], laidTests := true, laidLooks := .later }
def CfgLowersUptoCardSaid : Prop := Claim7.holds Tryz.pinned (.plain (OpenSpec.upto cfgLowersSpec)) cfgLowersUptoCard

/-- THE SECOND FORM's CARD OF 'meddlerlaw8.CfgMay'. -/
def cfgMayUptoCard : Claim7 := { stood := { row := cfgMayUptoRow, standIns := [], harness := (true, "7b8db522326e7bb989976adb39720ebe7cce5c6f2d7ba34d08cf3b2cf3e75b7b"), looks := false }, kinds := [], alts := [], laidByText := true, laidKinds := [.data, .pinned], laidTests := true, laidLooks := .later }
def CfgMayUptoCardSaid : Prop := Claim7.holds Tryz.pinned (.plain (OpenSpec.upto cfgMaySpec)) cfgMayUptoCard

/-- THE SECOND FORM's CARD OF 'meddlerlaw8.CfgNumbers'. -/
def cfgNumbersUptoCard : Claim7 := { stood := { row := cfgNumbersUptoRow, standIns := [], harness := (true, "7b8db522326e7bb989976adb39720ebe7cce5c6f2d7ba34d08cf3b2cf3e75b7b"), looks := false }, kinds := [], alts := [], laidByText := true, laidKinds := [.data, .pinned], laidTests := true, laidLooks := .later }
def CfgNumbersUptoCardSaid : Prop := Claim7.holds Tryz.pinned (.plain (OpenSpec.upto cfgNumbersSpec)) cfgNumbersUptoCard

/-- THE SECOND FORM's CARD OF 'meddlerlaw8.CfgHeads'. -/
def cfgHeadsUptoCard : Claim7 := { stood := { row := cfgHeadsUptoRow, standIns := [], harness := (true, "7b8db522326e7bb989976adb39720ebe7cce5c6f2d7ba34d08cf3b2cf3e75b7b"), looks := false }, kinds := [], alts := [], laidByText := true, laidKinds := [.data, .pinned], laidTests := true, laidLooks := .later }
def CfgHeadsUptoCardSaid : Prop := Claim7.holds Tryz.pinned (.plain (OpenSpec.upto cfgHeadsSpec)) cfgHeadsUptoCard
end Rows
end Go.Proofs.YtmjbedjnojcmfaaGreatDoor
