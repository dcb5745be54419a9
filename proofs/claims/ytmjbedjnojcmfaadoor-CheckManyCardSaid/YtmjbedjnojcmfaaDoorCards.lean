/-
  DERIVED. GIVEN WITH THE SEED: THE CARDS: each row of YtmjbedjnojcmfaaDoorRows.lean that lists a variable, with what it lists TIED to the program's text (the seventh form; the later family's looks); each row that meets fmt, with fmt's text TOLD by the authors' own Lean function (tested against real Go, not proved from fmt's source: count such statements apart). THE CARD IS WHAT COUNTS. Prove the row's statement (the work); the ties are given (YtmjbedjnojcmfaaDoorTie.lean); close each card by the builder's one call (the guide's Derived/Test/ToyasCard.lean, 'card_holds'). Laid BY PROGRAM, IN A SANDBOX (cutbox-door.mjs). By AI agents, Wed Nov 11 2026. No macro, syntax, notation, axiom, sorry.
-/
import Derived.Test.YtmjbedjnojcmfaaDoorRows
import GoSem.ClaimSeven
namespace Go.Proofs.YtmjbedjnojcmfaaDoor
namespace Rows

/-- THE TIED CARD OF 'meddlerlaw7.CheckNames'. -/
def checkNamesCard : Claim7 := { stood := { row := checkNamesRow, standIns := [], harness := (true, "d072a78bfa068f7b2a6c4c6113ba386be64ee9ab5bf15603bbaa2659a15d7f02"), looks := false }, kinds := [], alts := [], laidByText := true, laidKinds := [.data, .pinned], laidTests := true, laidLooks := .later }
def CheckNamesCardSaid : Prop := Claim7.holds Tryd.pinned (.plain (OpenSpec.ofChange checkNamesSpec)) checkNamesCard

/-- THE TIED CARD OF 'meddlerlaw7.CheckKinds'. -/
def checkKindsCard : Claim7 := { stood := { row := checkKindsRow, standIns := [], harness := (true, "d072a78bfa068f7b2a6c4c6113ba386be64ee9ab5bf15603bbaa2659a15d7f02"), looks := false }, kinds := [], alts := [], laidByText := true, laidKinds := [.data, .pinned], laidTests := true, laidLooks := .later }
def CheckKindsCardSaid : Prop := Claim7.holds Tryd.pinned (.plain (OpenSpec.ofChange checkKindsSpec)) checkKindsCard

/-- THE TIED CARD OF 'meddlerlaw7.CheckMany'. -/
def checkManyCard : Claim7 := { stood := { row := checkManyRow, standIns := [], harness := (true, "d072a78bfa068f7b2a6c4c6113ba386be64ee9ab5bf15603bbaa2659a15d7f02"), looks := false }, kinds := [], alts := [], laidByText := true, laidKinds := [.data, .pinned], laidTests := true, laidLooks := .later }
def CheckManyCardSaid : Prop := Claim7.holds Tryd.pinned (.plain (OpenSpec.ofChange checkManySpec)) checkManyCard

/-- THE TIED CARD OF 'meddlerlaw7.CheckDeep'. -/
def checkDeepCard : Claim7 := { stood := { row := checkDeepRow, standIns := [], harness := (true, "d072a78bfa068f7b2a6c4c6113ba386be64ee9ab5bf15603bbaa2659a15d7f02"), looks := false }, kinds := [], alts := [], laidByText := true, laidKinds := [.data, .pinned], laidTests := true, laidLooks := .later }
def CheckDeepCardSaid : Prop := Claim7.holds Tryd.pinned (.plain (OpenSpec.ofChange checkDeepSpec)) checkDeepCard

/-- THE SECOND FORM's CARD OF 'meddlerlaw7.CheckNames'. -/
def checkNamesUptoCard : Claim7 := { stood := { row := checkNamesUptoRow, standIns := [], harness := (true, "d072a78bfa068f7b2a6c4c6113ba386be64ee9ab5bf15603bbaa2659a15d7f02"), looks := false }, kinds := [], alts := [], laidByText := true, laidKinds := [.data, .pinned], laidTests := true, laidLooks := .later }
def CheckNamesUptoCardSaid : Prop := Claim7.holds Tryd.pinned (.plain (OpenSpec.upto checkNamesSpec)) checkNamesUptoCard

/-- THE SECOND FORM's CARD OF 'meddlerlaw7.CheckKinds'. -/
def checkKindsUptoCard : Claim7 := { stood := { row := checkKindsUptoRow, standIns := [], harness := (true, "d072a78bfa068f7b2a6c4c6113ba386be64ee9ab5bf15603bbaa2659a15d7f02"), looks := false }, kinds := [], alts := [], laidByText := true, laidKinds := [.data, .pinned], laidTests := true, laidLooks := .later }
def CheckKindsUptoCardSaid : Prop := Claim7.holds Tryd.pinned (.plain (OpenSpec.upto checkKindsSpec)) checkKindsUptoCard

/-- THE SECOND FORM's CARD OF 'meddlerlaw7.CheckMany'. -/
def checkManyUptoCard : Claim7 := { stood := { row := checkManyUptoRow, standIns := [], harness := (true, "d072a78bfa068f7b2a6c4c6113ba386be64ee9ab5bf15603bbaa2659a15d7f02"), looks := false }, kinds := [], alts := [], laidByText := true, laidKinds := [.data, .pinned], laidTests := true, laidLooks := .later }
def CheckManyUptoCardSaid : Prop := Claim7.holds Tryd.pinned (.plain (OpenSpec.upto checkManySpec)) checkManyUptoCard

/-- THE SECOND FORM's CARD OF 'meddlerlaw7.CheckDeep'. -/
def checkDeepUptoCard : Claim7 := { stood := { row := checkDeepUptoRow, standIns := [], harness := (true, "d072a78bfa068f7b2a6c4c6113ba386be64ee9ab5bf15603bbaa2659a15d7f02"), looks := false }, kinds := [], alts := [], laidByText := true, laidKinds := [.data, .pinned], laidTests := true, laidLooks := .later }
def CheckDeepUptoCardSaid : Prop := Claim7.holds Tryd.pinned (.plain (OpenSpec.upto checkDeepSpec)) checkDeepUptoCard
end Rows
end Go.Proofs.YtmjbedjnojcmfaaDoor
