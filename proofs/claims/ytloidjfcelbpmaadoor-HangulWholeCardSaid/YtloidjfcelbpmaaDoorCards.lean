/-
  DERIVED. GIVEN WITH THE SEED: THE CARDS: each row of YtloidjfcelbpmaaDoorRows.lean that lists a variable, with what it lists TIED to the program's text (the seventh form; the later family's looks); each row that meets fmt, with fmt's text TOLD by the authors' own Lean function (tested against real Go, not proved from fmt's source: count such statements apart). THE CARD IS WHAT COUNTS. Prove the row's statement (the work); the ties are given (YtloidjfcelbpmaaDoorTie.lean); close each card by the builder's one call (the guide's Derived/Test/ToyasCard.lean, 'card_holds'). Laid BY PROGRAM, IN A SANDBOX (cutbox-door.mjs). By AI agents, Wed Nov 11 2026. No macro, syntax, notation, axiom, sorry.
-/
import Derived.Test.YtloidjfcelbpmaaDoorRows
import GoSem.ClaimSeven
namespace Go.Proofs.YtloidjfcelbpmaaDoor
namespace Rows

/-- THE TIED CARD OF 'reedpenlaw22.HangulParts'. -/
def hangulPartsCard : Claim7 := { stood := { row := hangulPartsRow, standIns := [], harness := (true, "102d1bea5302e92a1737994df85cf5db8ba7ebedab925a698addbad179f74d67"), looks := false }, kinds := [], alts := [], laidByText := true, laidKinds := [.data], laidTests := true, laidLooks := .later }
def HangulPartsCardSaid : Prop := Claim7.holds Tryd.pinned (.plain (OpenSpec.ofChange hangulPartsSpec)) hangulPartsCard

/-- THE TIED CARD OF 'reedpenlaw22.HangulCuts'. -/
def hangulCutsCard : Claim7 := { stood := { row := hangulCutsRow, standIns := [], harness := (true, "102d1bea5302e92a1737994df85cf5db8ba7ebedab925a698addbad179f74d67"), looks := false }, kinds := [], alts := [], laidByText := true, laidKinds := [.data], laidTests := true, laidLooks := .later }
def HangulCutsCardSaid : Prop := Claim7.holds Tryd.pinned (.plain (OpenSpec.ofChange hangulCutsSpec)) hangulCutsCard

/-- THE TIED CARD OF 'reedpenlaw22.HangulWhole'. -/
def hangulWholeCard : Claim7 := { stood := { row := hangulWholeRow, standIns := [], harness := (true, "102d1bea5302e92a1737994df85cf5db8ba7ebedab925a698addbad179f74d67"), looks := false }, kinds := [], alts := [], laidByText := true, laidKinds := [.data], laidTests := true, laidLooks := .later }
def HangulWholeCardSaid : Prop := Claim7.holds Tryd.pinned (.plain (OpenSpec.ofChange hangulWholeSpec)) hangulWholeCard

/-- THE TIED CARD OF 'reedpenlaw22.HangulBack'. -/
def hangulBackCard : Claim7 := { stood := { row := hangulBackRow, standIns := [], harness := (true, "102d1bea5302e92a1737994df85cf5db8ba7ebedab925a698addbad179f74d67"), looks := false }, kinds := [], alts := [], laidByText := true, laidKinds := [.data], laidTests := true, laidLooks := .later }
def HangulBackCardSaid : Prop := Claim7.holds Tryd.pinned (.plain (OpenSpec.ofChange hangulBackSpec)) hangulBackCard

/-- THE SECOND FORM's CARD OF 'reedpenlaw22.HangulParts'. -/
def hangulPartsUptoCard : Claim7 := { stood := { row := hangulPartsUptoRow, standIns := [], harness := (true, "102d1bea5302e92a1737994df85cf5db8ba7ebedab925a698addbad179f74d67"), looks := false }, kinds := [], alts := [], laidByText := true, laidKinds := [.data], laidTests := true, laidLooks := .later }
def HangulPartsUptoCardSaid : Prop := Claim7.holds Tryd.pinned (.plain (OpenSpec.upto hangulPartsSpec)) hangulPartsUptoCard

/-- THE SECOND FORM's CARD OF 'reedpenlaw22.HangulCuts'. -/
def hangulCutsUptoCard : Claim7 := { stood := { row := hangulCutsUptoRow, standIns := [], harness := (true, "102d1bea5302e92a1737994df85cf5db8ba7ebedab925a698addbad179f74d67"), looks := false }, kinds := [], alts := [], laidByText := true, laidKinds := [.data], laidTests := true, laidLooks := .later }
def HangulCutsUptoCardSaid : Prop := Claim7.holds Tryd.pinned (.plain (OpenSpec.upto hangulCutsSpec)) hangulCutsUptoCard

/-- THE SECOND FORM's CARD OF 'reedpenlaw22.HangulWhole'. -/
def hangulWholeUptoCard : Claim7 := { stood := { row := hangulWholeUptoRow, standIns := [], harness := (true, "102d1bea5302e92a1737994df85cf5db8ba7ebedab925a698addbad179f74d67"), looks := false }, kinds := [], alts := [], laidByText := true, laidKinds := [.data], laidTests := true, laidLooks := .later }
def HangulWholeUptoCardSaid : Prop := Claim7.holds Tryd.pinned (.plain (OpenSpec.upto hangulWholeSpec)) hangulWholeUptoCard

/-- THE SECOND FORM's CARD OF 'reedpenlaw22.HangulBack'. -/
def hangulBackUptoCard : Claim7 := { stood := { row := hangulBackUptoRow, standIns := [], harness := (true, "102d1bea5302e92a1737994df85cf5db8ba7ebedab925a698addbad179f74d67"), looks := false }, kinds := [], alts := [], laidByText := true, laidKinds := [.data], laidTests := true, laidLooks := .later }
def HangulBackUptoCardSaid : Prop := Claim7.holds Tryd.pinned (.plain (OpenSpec.upto hangulBackSpec)) hangulBackUptoCard
end Rows
end Go.Proofs.YtloidjfcelbpmaaDoor
