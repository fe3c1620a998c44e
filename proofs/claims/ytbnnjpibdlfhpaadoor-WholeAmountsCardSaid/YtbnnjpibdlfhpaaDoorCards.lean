/-
  DERIVED. GIVEN WITH THE SEED: THE CARDS: each row of YtbnnjpibdlfhpaaDoorRows.lean that lists a variable, with what it lists TIED to the program's text (the seventh form; the later family's looks); each row that meets fmt, with fmt's text TOLD by the authors' own Lean function (tested against real Go, not proved from fmt's source: count such statements apart). THE CARD IS WHAT COUNTS. Prove the row's statement (the work); the ties are given (YtbnnjpibdlfhpaaDoorTie.lean); close each card by the builder's one call (the guide's Derived/Test/ToyasCard.lean, 'card_holds'). Laid BY PROGRAM, IN A SANDBOX (cutbox-door.mjs). By AI agents, Wed Nov 11 2026. No macro, syntax, notation, axiom, sorry.
-/
import Derived.Test.YtbnnjpibdlfhpaaDoorRows
import GoSem.ClaimSeven
namespace Go.Proofs.YtbnnjpibdlfhpaaDoor
namespace Rows

/-- THE TIED CARD OF 'contratop.WholeAmounts'. -/
def wholeAmountsCard : Claim7 := { stood := { row := wholeAmountsRow, standIns := [], harness := (true, "932f170d55604ab5aa4c4290d67a29e40f516ade24508f0b4f98fc24d97ac1d9"), looks := false }, kinds := [], alts := [], laidByText := true, laidKinds := [.data, .data, .data], laidTests := true, laidLooks := .later }
def WholeAmountsCardSaid : Prop := Claim7.holds Tryd.pinned (.plain (OpenSpec.ofChange wholeAmountsSpec)) wholeAmountsCard

/-- THE SECOND FORM's CARD OF 'contratop.WholeAmounts'. -/
def wholeAmountsUptoCard : Claim7 := { stood := { row := wholeAmountsUptoRow, standIns := [], harness := (true, "932f170d55604ab5aa4c4290d67a29e40f516ade24508f0b4f98fc24d97ac1d9"), looks := false }, kinds := [], alts := [], laidByText := true, laidKinds := [.data, .data, .data], laidTests := true, laidLooks := .later }
def WholeAmountsUptoCardSaid : Prop := Claim7.holds Tryd.pinned (.plain (OpenSpec.upto wholeAmountsSpec)) wholeAmountsUptoCard
end Rows
end Go.Proofs.YtbnnjpibdlfhpaaDoor
