/-
  DERIVED. GIVEN WITH THE SEED: THE CARDS: each row of YtdaeombjdagnbaaDoorRows.lean that lists a variable, with what it lists TIED to the program's text (the seventh form; the later family's looks); each row that meets fmt, with fmt's text TOLD by the authors' own Lean function (tested against real Go, not proved from fmt's source: count such statements apart). THE CARD IS WHAT COUNTS. Prove the row's statement (the work); the ties are given (YtdaeombjdagnbaaDoorTie.lean); close each card by the builder's one call (the guide's Derived/Test/ToyasCard.lean, 'card_holds'). Laid BY PROGRAM, IN A SANDBOX (cutbox-door.mjs). By AI agents, Wed Nov 11 2026. No macro, syntax, notation, axiom, sorry.
-/
import Derived.Test.YtdaeombjdagnbaaDoorRows
import GoSem.ClaimSeven
namespace Go.Proofs.YtdaeombjdagnbaaDoor
namespace Rows

/-- THE TIED CARD OF 'reedpenlaw23.JoiningForms'. -/
def joiningFormsCard : Claim7 := { stood := { row := joiningFormsRow, standIns := [], harness := (true, "1f04805cd229286d3a1bf865dfb8b970f6729f71adf30f035659fa03807ba9b6"), looks := false }, kinds := [], alts := [], laidByText := true, laidKinds := [.data], laidTests := true, laidLooks := .later }
def JoiningFormsCardSaid : Prop := Claim7.holds Tryd.pinned (.plain (OpenSpec.ofChange joiningFormsSpec)) joiningFormsCard

/-- THE TIED CARD OF 'reedpenlaw23.JoiningCuts'. -/
def joiningCutsCard : Claim7 := { stood := { row := joiningCutsRow, standIns := [], harness := (true, "1f04805cd229286d3a1bf865dfb8b970f6729f71adf30f035659fa03807ba9b6"), looks := false }, kinds := [], alts := [], laidByText := true, laidKinds := [.data], laidTests := true, laidLooks := .later }
def JoiningCutsCardSaid : Prop := Claim7.holds Tryd.pinned (.plain (OpenSpec.ofChange joiningCutsSpec)) joiningCutsCard

/-- THE TIED CARD OF 'reedpenlaw23.JoiningTurns'. -/
def joiningTurnsCard : Claim7 := { stood := { row := joiningTurnsRow, standIns := [], harness := (true, "1f04805cd229286d3a1bf865dfb8b970f6729f71adf30f035659fa03807ba9b6"), looks := false }, kinds := [], alts := [], laidByText := true, laidKinds := [.data], laidTests := true, laidLooks := .later }
def JoiningTurnsCardSaid : Prop := Claim7.holds Tryd.pinned (.plain (OpenSpec.ofChange joiningTurnsSpec)) joiningTurnsCard

/-- THE TIED CARD OF 'reedpenlaw23.JoiningPieces'. -/
def joiningPiecesCard : Claim7 := { stood := { row := joiningPiecesRow, standIns := [], harness := (true, "1f04805cd229286d3a1bf865dfb8b970f6729f71adf30f035659fa03807ba9b6"), looks := false }, kinds := [], alts := [], laidByText := true, laidKinds := [.data], laidTests := true, laidLooks := .later }
def JoiningPiecesCardSaid : Prop := Claim7.holds Tryd.pinned (.plain (OpenSpec.ofChange joiningPiecesSpec)) joiningPiecesCard

/-- THE SECOND FORM's CARD OF 'reedpenlaw23.JoiningForms'. -/
def joiningFormsUptoCard : Claim7 := { stood := { row := joiningFormsUptoRow, standIns := [], harness := (true, "1f04805cd229286d3a1bf865dfb8b970f6729f71adf30f035659fa03807ba9b6"), looks := false }, kinds := [], alts := [], laidByText := true, laidKinds := [.data], laidTests := true, laidLooks := .later }
def JoiningFormsUptoCardSaid : Prop := Claim7.holds Tryd.pinned (.plain (OpenSpec.upto joiningFormsSpec)) joiningFormsUptoCard

/-- THE SECOND FORM's CARD OF 'reedpenlaw23.JoiningCuts'. -/
def joiningCutsUptoCard : Claim7 := { stood := { row := joiningCutsUptoRow, standIns := [], harness := (true, "1f04805cd229286d3a1bf865dfb8b970f6729f71adf30f035659fa03807ba9b6"), looks := false }, kinds := [], alts := [], laidByText := true, laidKinds := [.data], laidTests := true, laidLooks := .later }
def JoiningCutsUptoCardSaid : Prop := Claim7.holds Tryd.pinned (.plain (OpenSpec.upto joiningCutsSpec)) joiningCutsUptoCard

/-- THE SECOND FORM's CARD OF 'reedpenlaw23.JoiningTurns'. -/
def joiningTurnsUptoCard : Claim7 := { stood := { row := joiningTurnsUptoRow, standIns := [], harness := (true, "1f04805cd229286d3a1bf865dfb8b970f6729f71adf30f035659fa03807ba9b6"), looks := false }, kinds := [], alts := [], laidByText := true, laidKinds := [.data], laidTests := true, laidLooks := .later }
def JoiningTurnsUptoCardSaid : Prop := Claim7.holds Tryd.pinned (.plain (OpenSpec.upto joiningTurnsSpec)) joiningTurnsUptoCard

/-- THE SECOND FORM's CARD OF 'reedpenlaw23.JoiningPieces'. -/
def joiningPiecesUptoCard : Claim7 := { stood := { row := joiningPiecesUptoRow, standIns := [], harness := (true, "1f04805cd229286d3a1bf865dfb8b970f6729f71adf30f035659fa03807ba9b6"), looks := false }, kinds := [], alts := [], laidByText := true, laidKinds := [.data], laidTests := true, laidLooks := .later }
def JoiningPiecesUptoCardSaid : Prop := Claim7.holds Tryd.pinned (.plain (OpenSpec.upto joiningPiecesSpec)) joiningPiecesUptoCard
end Rows
end Go.Proofs.YtdaeombjdagnbaaDoor
