/-
  DERIVED. GIVEN WITH THE SEED: THE CARDS: each row of YtmolbagfkdbdnaaGreatDoorRows.lean that lists a variable, with what it lists TIED to the program's text (the seventh form; the later family's looks); each row that meets fmt, with fmt's text TOLD by the authors' own Lean function (tested against real Go, not proved from fmt's source: count such statements apart). THE CARD IS WHAT COUNTS. Prove the row's statement (the work); the ties are given (YtmolbagfkdbdnaaGreatDoorTie.lean); close each card by the builder's one call (the guide's Derived/Test/ToyasCard.lean, 'card_holds'). Laid BY PROGRAM, IN A SANDBOX (cutbox-door.mjs). By AI agents, Wed Nov 11 2026. No macro, syntax, notation, axiom, sorry.
-/
import Derived.Test.YtmolbagfkdbdnaaGreatDoorRows
import GoSem.ClaimSeven
namespace Go.Proofs.YtmolbagfkdbdnaaGreatDoor
namespace Rows

/-- THE TIED CARD OF 'trustquorumtop.TopSilent'. -/
def topSilentCard : Claim7 := { stood := { row := topSilentRow, standIns := [], harness := (true, "7ef2647bcbaba1ec69817c292fa0a12be246af8a644c05ad853d60afc9691227"), looks := true }, kinds := [], alts := [], laidByText := true, laidKinds := [.data, .data, .data, .data, .sentinel, .sentinel, .pinned], laidTests := true, laidLooks := .later }
def TopSilentCardSaid : Prop := Claim7.holds Tryz.pinned (.plain (OpenSpec.ofChange topSilentSpec)) topSilentCard

/-- THE SECOND FORM's CARD OF 'trustquorumtop.TopSilent'. -/
def topSilentUptoCard : Claim7 := { stood := { row := topSilentUptoRow, standIns := [], harness := (true, "7ef2647bcbaba1ec69817c292fa0a12be246af8a644c05ad853d60afc9691227"), looks := true }, kinds := [], alts := [], laidByText := true, laidKinds := [.data, .data, .data, .data, .sentinel, .sentinel, .pinned], laidTests := true, laidLooks := .later }
def TopSilentUptoCardSaid : Prop := Claim7.holds Tryz.pinned (.plain (OpenSpec.upto topSilentSpec)) topSilentUptoCard
end Rows
end Go.Proofs.YtmolbagfkdbdnaaGreatDoor
