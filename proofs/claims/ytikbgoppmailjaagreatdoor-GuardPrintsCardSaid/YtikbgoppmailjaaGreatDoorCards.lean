/-
  DERIVED. GIVEN WITH THE SEED: THE CARDS: each row of YtikbgoppmailjaaGreatDoorRows.lean that lists a variable, with what it lists TIED to the program's text (the seventh form; the later family's looks); each row that meets fmt, with fmt's text TOLD by the authors' own Lean function (tested against real Go, not proved from fmt's source: count such statements apart). THE CARD IS WHAT COUNTS. Prove the row's statement (the work); the ties are given (YtikbgoppmailjaaGreatDoorTie.lean); close each card by the builder's one call (the guide's Derived/Test/ToyasCard.lean, 'card_holds'). Laid BY PROGRAM, IN A SANDBOX (cutbox-door.mjs). By AI agents, Wed Nov 11 2026. No macro, syntax, notation, axiom, sorry.
-/
import Derived.Test.YtikbgoppmailjaaGreatDoorRows
import GoSem.ClaimSeven
namespace Go.Proofs.YtikbgoppmailjaaGreatDoor
namespace Rows

/-- THE TIED CARD OF 'remontoirlaw14.GuardParses'. -/
def guardParsesCard : Claim7 := { stood := { row := guardParsesRow, standIns := [], harness := (true, "622fc5a4f82d76dc8f531178e5d52b99b63e12297cfd8f24a567b51b2700a3e2"), looks := true }, kinds := [], alts := [], laidByText := true, laidKinds := [.data, .data, .data, .data, .sentinel, .sentinel, .sentinel, .pinned], laidTests := true, laidLooks := .later }
def GuardParsesCardSaid : Prop := Claim7.holds Tryz.pinned (.plain (OpenSpec.ofChange guardParsesSpec)) guardParsesCard

/-- THE TIED CARD OF 'remontoirlaw14.GuardPrints'. -/
def guardPrintsCard : Claim7 := { stood := { row := guardPrintsRow, standIns := [], harness := (true, "622fc5a4f82d76dc8f531178e5d52b99b63e12297cfd8f24a567b51b2700a3e2"), looks := true }, kinds := [], alts := [], laidByText := true, laidKinds := [.data, .data, .data, .data, .sentinel, .sentinel, .sentinel, .pinned], laidTests := true, laidLooks := .later }
def GuardPrintsCardSaid : Prop := Claim7.holds Tryz.pinned (.plain (OpenSpec.ofChange guardPrintsSpec)) guardPrintsCard

/-- THE SECOND FORM's CARD OF 'remontoirlaw14.GuardParses'. -/
def guardParsesUptoCard : Claim7 := { stood := { row := guardParsesUptoRow, standIns := [], harness := (true, "622fc5a4f82d76dc8f531178e5d52b99b63e12297cfd8f24a567b51b2700a3e2"), looks := true }, kinds := [], alts := [], laidByText := true, laidKinds := [.data, .data, .data, .data, .sentinel, .sentinel, .sentinel, .pinned], laidTests := true, laidLooks := .later }
def GuardParsesUptoCardSaid : Prop := Claim7.holds Tryz.pinned (.plain (OpenSpec.upto guardParsesSpec)) guardParsesUptoCard

/-- THE SECOND FORM's CARD OF 'remontoirlaw14.GuardPrints'. -/
def guardPrintsUptoCard : Claim7 := { stood := { row := guardPrintsUptoRow, standIns := [], harness := (true, "622fc5a4f82d76dc8f531178e5d52b99b63e12297cfd8f24a567b51b2700a3e2"), looks := true }, kinds := [], alts := [], laidByText := true, laidKinds := [.data, .data, .data, .data, .sentinel, .sentinel, .sentinel, .pinned], laidTests := true, laidLooks := .later }
def GuardPrintsUptoCardSaid : Prop := Claim7.holds Tryz.pinned (.plain (OpenSpec.upto guardPrintsSpec)) guardPrintsUptoCard
end Rows
end Go.Proofs.YtikbgoppmailjaaGreatDoor
