/-
  DERIVED. GIVEN WITH THE SEED: THE CARDS: each row of YtojfdekiponccaaGreatDoorRows.lean that lists a variable, with what it lists TIED to the program's text (the seventh form; the later family's looks); each row that meets fmt, with fmt's text TOLD by the authors' own Lean function (tested against real Go, not proved from fmt's source: count such statements apart). THE CARD IS WHAT COUNTS. Prove the row's statement (the work); the ties are given (YtojfdekiponccaaGreatDoorTie.lean); close each card by the builder's one call (the guide's Derived/Test/ToyasCard.lean, 'card_holds'). Laid BY PROGRAM, IN A SANDBOX (cutbox-door.mjs). By AI agents, Wed Nov 11 2026. No macro, syntax, notation, axiom, sorry.
-/
import Derived.Test.YtojfdekiponccaaGreatDoorRows
import GoSem.ClaimSeven
namespace Go.Proofs.YtojfdekiponccaaGreatDoor
namespace Rows

/-- THE TIED CARD OF 'remontoirlaw15.EvalOnly'. -/
def evalOnlyCard : Claim7 := { stood := { row := evalOnlyRow, standIns := [], harness := (true, "4ca16a25eaf3f40a9bd4bf9ef73f5afc1dc853ef91e916b1ffdff9f1f1b13545"), looks := true }, kinds := [], alts := [], laidByText := true, laidKinds := [.data, .data, .data, .data, .sentinel, .sentinel, .sentinel, .pinned], laidTests := true, laidLooks := .later }
def EvalOnlyCardSaid : Prop := Claim7.holds Tryz.pinned (.plain (OpenSpec.ofChange evalOnlySpec)) evalOnlyCard

/-- THE SECOND FORM's CARD OF 'remontoirlaw15.EvalOnly'. -/
def evalOnlyUptoCard : Claim7 := { stood := { row := evalOnlyUptoRow, standIns := [], harness := (true, "4ca16a25eaf3f40a9bd4bf9ef73f5afc1dc853ef91e916b1ffdff9f1f1b13545"), looks := true }, kinds := [], alts := [], laidByText := true, laidKinds := [.data, .data, .data, .data, .sentinel, .sentinel, .sentinel, .pinned], laidTests := true, laidLooks := .later }
def EvalOnlyUptoCardSaid : Prop := Claim7.holds Tryz.pinned (.plain (OpenSpec.upto evalOnlySpec)) evalOnlyUptoCard
end Rows
end Go.Proofs.YtojfdekiponccaaGreatDoor
