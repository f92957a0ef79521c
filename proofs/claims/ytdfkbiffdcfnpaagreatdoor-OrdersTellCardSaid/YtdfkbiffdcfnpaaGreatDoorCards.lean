/-
  DERIVED. GIVEN WITH THE SEED: THE CARDS: each row of YtdfkbiffdcfnpaaGreatDoorRows.lean that lists a variable, with what it lists TIED to the program's text (the seventh form; the later family's looks); each row that meets fmt, with fmt's text TOLD by the authors' own Lean function (tested against real Go, not proved from fmt's source: count such statements apart). THE CARD IS WHAT COUNTS. Prove the row's statement (the work); the ties are given (YtdfkbiffdcfnpaaGreatDoorTie.lean); close each card by the builder's one call (the guide's Derived/Test/ToyasCard.lean, 'card_holds'). Laid BY PROGRAM, IN A SANDBOX (cutbox-door.mjs). By AI agents, Wed Nov 11 2026. No macro, syntax, notation, axiom, sorry.
-/
import Derived.Test.YtdfkbiffdcfnpaaGreatDoorRows
import GoSem.ClaimSeven
namespace Go.Proofs.YtdfkbiffdcfnpaaGreatDoor
namespace Rows

/-- THE TIED CARD OF 'remontoirlaw27.OrdersTell'. -/
def ordersTellCard : Claim7 := { stood := { row := ordersTellRow, standIns := [], harness := (true, "dfdb58c27bf7750c39094d5bfb3d49047732ea153bd1177d6fa8a4556c1195c6"), looks := true }, kinds := [], alts := [], laidByText := true, laidKinds := [.data, .data, .data, .sentinel, .sentinel], laidTests := true, laidLooks := .later }
def OrdersTellCardSaid : Prop := Claim7.holds Tryz.pinned (.plain (OpenSpec.ofChange ordersTellSpec)) ordersTellCard

/-- THE TIED CARD OF 'remontoirlaw26.JudgeTells'. -/
def judgeTellsCard : Claim7 := { stood := { row := judgeTellsRow, standIns := [], harness := (true, "dfdb58c27bf7750c39094d5bfb3d49047732ea153bd1177d6fa8a4556c1195c6"), looks := true }, kinds := [], alts := [], laidByText := true, laidKinds := [.data, .data, .data, .data, .sentinel, .sentinel, .sentinel, .pinned], laidTests := true, laidLooks := .later }
def JudgeTellsCardSaid : Prop := Claim7.holds Tryz.pinned (.plain (OpenSpec.ofChange judgeTellsSpec)) judgeTellsCard

/-- THE TIED CARD OF 'remontoirlaw26.JudgeFirst'. -/
def judgeFirstCard : Claim7 := { stood := { row := judgeFirstRow, standIns := [], harness := (true, "dfdb58c27bf7750c39094d5bfb3d49047732ea153bd1177d6fa8a4556c1195c6"), looks := true }, kinds := [], alts := [], laidByText := true, laidKinds := [.data, .data, .data, .data, .sentinel, .sentinel, .sentinel, .pinned], laidTests := true, laidLooks := .later }
def JudgeFirstCardSaid : Prop := Claim7.holds Tryz.pinned (.plain (OpenSpec.ofChange judgeFirstSpec)) judgeFirstCard

/-- THE TIED CARD OF 'remontoirlaw26.JudgeNone'. -/
def judgeNoneCard : Claim7 := { stood := { row := judgeNoneRow, standIns := [], harness := (true, "dfdb58c27bf7750c39094d5bfb3d49047732ea153bd1177d6fa8a4556c1195c6"), looks := true }, kinds := [], alts := [], laidByText := true, laidKinds := [.data, .data, .data, .data, .sentinel, .sentinel, .sentinel, .pinned], laidTests := true, laidLooks := .later }
def JudgeNoneCardSaid : Prop := Claim7.holds Tryz.pinned (.plain (OpenSpec.ofChange judgeNoneSpec)) judgeNoneCard

/-- THE TIED CARD OF 'remontoirlaw26.JudgeOnly'. -/
def judgeOnlyCard : Claim7 := { stood := { row := judgeOnlyRow, standIns := [], harness := (true, "dfdb58c27bf7750c39094d5bfb3d49047732ea153bd1177d6fa8a4556c1195c6"), looks := true }, kinds := [], alts := [], laidByText := true, laidKinds := [.data, .data, .data, .data, .sentinel, .sentinel, .sentinel, .pinned], laidTests := true, laidLooks := .later }
def JudgeOnlyCardSaid : Prop := Claim7.holds Tryz.pinned (.plain (OpenSpec.ofChange judgeOnlySpec)) judgeOnlyCard

/-- THE TIED CARD OF 'remontoirlaw27.OrdersCase'. -/
def ordersCaseCard : Claim7 := { stood := { row := ordersCaseRow, standIns := [], harness := (true, "dfdb58c27bf7750c39094d5bfb3d49047732ea153bd1177d6fa8a4556c1195c6"), looks := true }, kinds := [], alts := [], laidByText := true, laidKinds := [.data, .data, .data, .data, .sentinel, .sentinel, .sentinel, .pinned], laidTests := true, laidLooks := .later }
def OrdersCaseCardSaid : Prop := Claim7.holds Tryz.pinned (.plain (OpenSpec.ofChange ordersCaseSpec)) ordersCaseCard

/-- THE TIED CARD OF 'remontoirlaw26.JudgeNet'. -/
def judgeNetCard : Claim7 := { stood := { row := judgeNetRow, standIns := [], harness := (true, "dfdb58c27bf7750c39094d5bfb3d49047732ea153bd1177d6fa8a4556c1195c6"), looks := true }, kinds := [], alts := [], laidByText := true, laidKinds := [.data, .data, .data, .data, .sentinel, .sentinel, .sentinel, .pinned], laidTests := true, laidLooks := .later }
def JudgeNetCardSaid : Prop := Claim7.holds Tryz.pinned (.plain (OpenSpec.ofChange judgeNetSpec)) judgeNetCard

/-- THE SECOND FORM's CARD OF 'remontoirlaw27.OrdersTell'. -/
def ordersTellUptoCard : Claim7 := { stood := { row := ordersTellUptoRow, standIns := [], harness := (true, "dfdb58c27bf7750c39094d5bfb3d49047732ea153bd1177d6fa8a4556c1195c6"), looks := true }, kinds := [], alts := [], laidByText := true, laidKinds := [.data, .data, .data, .sentinel, .sentinel], laidTests := true, laidLooks := .later }
def OrdersTellUptoCardSaid : Prop := Claim7.holds Tryz.pinned (.plain (OpenSpec.upto ordersTellSpec)) ordersTellUptoCard

/-- THE SECOND FORM's CARD OF 'remontoirlaw26.JudgeTells'. -/
def judgeTellsUptoCard : Claim7 := { stood := { row := judgeTellsUptoRow, standIns := [], harness := (true, "dfdb58c27bf7750c39094d5bfb3d49047732ea153bd1177d6fa8a4556c1195c6"), looks := true }, kinds := [], alts := [], laidByText := true, laidKinds := [.data, .data, .data, .data, .sentinel, .sentinel, .sentinel, .pinned], laidTests := true, laidLooks := .later }
def JudgeTellsUptoCardSaid : Prop := Claim7.holds Tryz.pinned (.plain (OpenSpec.upto judgeTellsSpec)) judgeTellsUptoCard

/-- THE SECOND FORM's CARD OF 'remontoirlaw26.JudgeFirst'. -/
def judgeFirstUptoCard : Claim7 := { stood := { row := judgeFirstUptoRow, standIns := [], harness := (true, "dfdb58c27bf7750c39094d5bfb3d49047732ea153bd1177d6fa8a4556c1195c6"), looks := true }, kinds := [], alts := [], laidByText := true, laidKinds := [.data, .data, .data, .data, .sentinel, .sentinel, .sentinel, .pinned], laidTests := true, laidLooks := .later }
def JudgeFirstUptoCardSaid : Prop := Claim7.holds Tryz.pinned (.plain (OpenSpec.upto judgeFirstSpec)) judgeFirstUptoCard

/-- THE SECOND FORM's CARD OF 'remontoirlaw26.JudgeNone'. -/
def judgeNoneUptoCard : Claim7 := { stood := { row := judgeNoneUptoRow, standIns := [], harness := (true, "dfdb58c27bf7750c39094d5bfb3d49047732ea153bd1177d6fa8a4556c1195c6"), looks := true }, kinds := [], alts := [], laidByText := true, laidKinds := [.data, .data, .data, .data, .sentinel, .sentinel, .sentinel, .pinned], laidTests := true, laidLooks := .later }
def JudgeNoneUptoCardSaid : Prop := Claim7.holds Tryz.pinned (.plain (OpenSpec.upto judgeNoneSpec)) judgeNoneUptoCard

/-- THE SECOND FORM's CARD OF 'remontoirlaw26.JudgeOnly'. -/
def judgeOnlyUptoCard : Claim7 := { stood := { row := judgeOnlyUptoRow, standIns := [], harness := (true, "dfdb58c27bf7750c39094d5bfb3d49047732ea153bd1177d6fa8a4556c1195c6"), looks := true }, kinds := [], alts := [], laidByText := true, laidKinds := [.data, .data, .data, .data, .sentinel, .sentinel, .sentinel, .pinned], laidTests := true, laidLooks := .later }
def JudgeOnlyUptoCardSaid : Prop := Claim7.holds Tryz.pinned (.plain (OpenSpec.upto judgeOnlySpec)) judgeOnlyUptoCard

/-- THE SECOND FORM's CARD OF 'remontoirlaw27.OrdersCase'. -/
def ordersCaseUptoCard : Claim7 := { stood := { row := ordersCaseUptoRow, standIns := [], harness := (true, "dfdb58c27bf7750c39094d5bfb3d49047732ea153bd1177d6fa8a4556c1195c6"), looks := true }, kinds := [], alts := [], laidByText := true, laidKinds := [.data, .data, .data, .data, .sentinel, .sentinel, .sentinel, .pinned], laidTests := true, laidLooks := .later }
def OrdersCaseUptoCardSaid : Prop := Claim7.holds Tryz.pinned (.plain (OpenSpec.upto ordersCaseSpec)) ordersCaseUptoCard

/-- THE SECOND FORM's CARD OF 'remontoirlaw26.JudgeNet'. -/
def judgeNetUptoCard : Claim7 := { stood := { row := judgeNetUptoRow, standIns := [], harness := (true, "dfdb58c27bf7750c39094d5bfb3d49047732ea153bd1177d6fa8a4556c1195c6"), looks := true }, kinds := [], alts := [], laidByText := true, laidKinds := [.data, .data, .data, .data, .sentinel, .sentinel, .sentinel, .pinned], laidTests := true, laidLooks := .later }
def JudgeNetUptoCardSaid : Prop := Claim7.holds Tryz.pinned (.plain (OpenSpec.upto judgeNetSpec)) judgeNetUptoCard
end Rows
end Go.Proofs.YtdfkbiffdcfnpaaGreatDoor
