/-
  DERIVED. GIVEN WITH THE SEED: THE CARDS: each row of YtikbgoppmailjaaDoorRows.lean that lists a variable, with what it lists TIED to the program's text (the seventh form; the later family's looks); each row that meets fmt, with fmt's text TOLD by the authors' own Lean function (tested against real Go, not proved from fmt's source: count such statements apart). THE CARD IS WHAT COUNTS. Prove the row's statement (the work); the ties are given (YtikbgoppmailjaaDoorTie.lean); close each card by the builder's one call (the guide's Derived/Test/ToyasCard.lean, 'card_holds'). Laid BY PROGRAM, IN A SANDBOX (cutbox-door.mjs). By AI agents, Wed Nov 11 2026. No macro, syntax, notation, axiom, sorry.
-/
import Derived.Test.YtikbgoppmailjaaDoorRows
import GoSem.ClaimSeven
namespace Go.Proofs.YtikbgoppmailjaaDoor
namespace Rows

/-- THE TIED CARD OF 'remontoirlaw14.GuardBack'. -/
def guardBackCard : Claim7 := { stood := { row := guardBackRow, standIns := [], harness := (true, "8765666417c91f8d280347720b9927af13f2e2727ac4c16370193c65c3bbdd37"), looks := true }, kinds := [], alts := [], laidByText := true, laidKinds := [.data, .data, .data, .data, .sentinel, .sentinel, .sentinel, .pinned], laidTests := true, laidLooks := .later }
def GuardBackCardSaid : Prop := Claim7.holds Tryd.pinned (.plain (OpenSpec.ofChange guardBackSpec)) guardBackCard

/-- THE TIED CARD OF 'remontoirlaw14.GuardJoins'. -/
def guardJoinsCard : Claim7 := { stood := { row := guardJoinsRow, standIns := [], harness := (true, "8765666417c91f8d280347720b9927af13f2e2727ac4c16370193c65c3bbdd37"), looks := true }, kinds := [], alts := [], laidByText := true, laidKinds := [.data, .data, .data, .data, .sentinel, .sentinel, .sentinel, .pinned], laidTests := true, laidLooks := .later }
def GuardJoinsCardSaid : Prop := Claim7.holds Tryd.pinned (.plain (OpenSpec.ofChange guardJoinsSpec)) guardJoinsCard

/-- THE TIED CARD OF 'remontoirlaw14.GuardLeft'. -/
def guardLeftCard : Claim7 := { stood := { row := guardLeftRow, standIns := [], harness := (true, "8765666417c91f8d280347720b9927af13f2e2727ac4c16370193c65c3bbdd37"), looks := true }, kinds := [], alts := [], laidByText := true, laidKinds := [.data, .data, .data, .data, .sentinel, .sentinel, .sentinel, .pinned], laidTests := true, laidLooks := .later }
def GuardLeftCardSaid : Prop := Claim7.holds Tryd.pinned (.plain (OpenSpec.ofChange guardLeftSpec)) guardLeftCard

/-- THE TIED CARD OF 'remontoirlaw14.GuardWrong'. -/
def guardWrongCard : Claim7 := { stood := { row := guardWrongRow, standIns := [], harness := (true, "8765666417c91f8d280347720b9927af13f2e2727ac4c16370193c65c3bbdd37"), looks := true }, kinds := [], alts := [], laidByText := true, laidKinds := [.data, .data, .data, .data, .sentinel, .sentinel, .sentinel, .pinned], laidTests := true, laidLooks := .later }
def GuardWrongCardSaid : Prop := Claim7.holds Tryd.pinned (.plain (OpenSpec.ofChange guardWrongSpec)) guardWrongCard

/-- THE SECOND FORM's CARD OF 'remontoirlaw14.GuardBack'. -/
def guardBackUptoCard : Claim7 := { stood := { row := guardBackUptoRow, standIns := [], harness := (true, "8765666417c91f8d280347720b9927af13f2e2727ac4c16370193c65c3bbdd37"), looks := true }, kinds := [], alts := [], laidByText := true, laidKinds := [.data, .data, .data, .data, .sentinel, .sentinel, .sentinel, .pinned], laidTests := true, laidLooks := .later }
def GuardBackUptoCardSaid : Prop := Claim7.holds Tryd.pinned (.plain (OpenSpec.upto guardBackSpec)) guardBackUptoCard

/-- THE SECOND FORM's CARD OF 'remontoirlaw14.GuardJoins'. -/
def guardJoinsUptoCard : Claim7 := { stood := { row := guardJoinsUptoRow, standIns := [], harness := (true, "8765666417c91f8d280347720b9927af13f2e2727ac4c16370193c65c3bbdd37"), looks := true }, kinds := [], alts := [], laidByText := true, laidKinds := [.data, .data, .data, .data, .sentinel, .sentinel, .sentinel, .pinned], laidTests := true, laidLooks := .later }
def GuardJoinsUptoCardSaid : Prop := Claim7.holds Tryd.pinned (.plain (OpenSpec.upto guardJoinsSpec)) guardJoinsUptoCard

/-- THE SECOND FORM's CARD OF 'remontoirlaw14.GuardLeft'. -/
def guardLeftUptoCard : Claim7 := { stood := { row := guardLeftUptoRow, standIns := [], harness := (true, "8765666417c91f8d280347720b9927af13f2e2727ac4c16370193c65c3bbdd37"), looks := true }, kinds := [], alts := [], laidByText := true, laidKinds := [.data, .data, .data, .data, .sentinel, .sentinel, .sentinel, .pinned], laidTests := true, laidLooks := .later }
def GuardLeftUptoCardSaid : Prop := Claim7.holds Tryd.pinned (.plain (OpenSpec.upto guardLeftSpec)) guardLeftUptoCard

/-- THE SECOND FORM's CARD OF 'remontoirlaw14.GuardWrong'. -/
def guardWrongUptoCard : Claim7 := { stood := { row := guardWrongUptoRow, standIns := [], harness := (true, "8765666417c91f8d280347720b9927af13f2e2727ac4c16370193c65c3bbdd37"), looks := true }, kinds := [], alts := [], laidByText := true, laidKinds := [.data, .data, .data, .data, .sentinel, .sentinel, .sentinel, .pinned], laidTests := true, laidLooks := .later }
def GuardWrongUptoCardSaid : Prop := Claim7.holds Tryd.pinned (.plain (OpenSpec.upto guardWrongSpec)) guardWrongUptoCard
end Rows
end Go.Proofs.YtikbgoppmailjaaDoor
