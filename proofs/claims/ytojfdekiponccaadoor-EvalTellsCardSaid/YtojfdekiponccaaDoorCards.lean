/-
  DERIVED. GIVEN WITH THE SEED: THE CARDS: each row of YtojfdekiponccaaDoorRows.lean that lists a variable, with what it lists TIED to the program's text (the seventh form; the later family's looks); each row that meets fmt, with fmt's text TOLD by the authors' own Lean function (tested against real Go, not proved from fmt's source: count such statements apart). THE CARD IS WHAT COUNTS. Prove the row's statement (the work); the ties are given (YtojfdekiponccaaDoorTie.lean); close each card by the builder's one call (the guide's Derived/Test/ToyasCard.lean, 'card_holds'). Laid BY PROGRAM, IN A SANDBOX (cutbox-door.mjs). By AI agents, Wed Nov 11 2026. No macro, syntax, notation, axiom, sorry.
-/
import Derived.Test.YtojfdekiponccaaDoorRows
import GoSem.ClaimSeven
namespace Go.Proofs.YtojfdekiponccaaDoor
namespace Rows

/-- THE TIED CARD OF 'remontoirlaw13.LexTells'. -/
def lexTellsCard : Claim7 := { stood := { row := lexTellsRow, standIns := [], harness := (true, "76719ae0e02662daa6583d700eb82c83dd7c7e7b8f26bbccc7188b4aba919560"), looks := true }, kinds := [], alts := [], laidByText := true, laidKinds := [.data, .data, .data, .data, .sentinel, .sentinel, .pinned], laidTests := true, laidLooks := .later }
def LexTellsCardSaid : Prop := Claim7.holds Tryd.pinned (.plain (OpenSpec.ofChange lexTellsSpec)) lexTellsCard

/-- THE TIED CARD OF 'remontoirlaw13.LexBack'. -/
def lexBackCard : Claim7 := { stood := { row := lexBackRow, standIns := [], harness := (true, "76719ae0e02662daa6583d700eb82c83dd7c7e7b8f26bbccc7188b4aba919560"), looks := true }, kinds := [], alts := [], laidByText := true, laidKinds := [.data, .data, .data, .data, .sentinel, .sentinel, .pinned], laidTests := true, laidLooks := .later }
def LexBackCardSaid : Prop := Claim7.holds Tryd.pinned (.plain (OpenSpec.ofChange lexBackSpec)) lexBackCard

/-- THE TIED CARD OF 'remontoirlaw13.LexJoins'. -/
def lexJoinsCard : Claim7 := { stood := { row := lexJoinsRow, standIns := [], harness := (true, "76719ae0e02662daa6583d700eb82c83dd7c7e7b8f26bbccc7188b4aba919560"), looks := true }, kinds := [], alts := [], laidByText := true, laidKinds := [.data, .data, .data, .data, .sentinel, .sentinel, .pinned], laidTests := true, laidLooks := .later }
def LexJoinsCardSaid : Prop := Claim7.holds Tryd.pinned (.plain (OpenSpec.ofChange lexJoinsSpec)) lexJoinsCard

/-- THE TIED CARD OF 'remontoirlaw13.LexNumbers'. -/
def lexNumbersCard : Claim7 := { stood := { row := lexNumbersRow, standIns := [], harness := (true, "76719ae0e02662daa6583d700eb82c83dd7c7e7b8f26bbccc7188b4aba919560"), looks := true }, kinds := [], alts := [], laidByText := true, laidKinds := [.data, .data, .data, .data, .sentinel, .sentinel, .pinned], laidTests := true, laidLooks := .later }
def LexNumbersCardSaid : Prop := Claim7.holds Tryd.pinned (.plain (OpenSpec.ofChange lexNumbersSpec)) lexNumbersCard

/-- THE TIED CARD OF 'remontoirlaw13.LexWrong'. -/
def lexWrongCard : Claim7 := { stood := { row := lexWrongRow, standIns := [], harness := (true, "76719ae0e02662daa6583d700eb82c83dd7c7e7b8f26bbccc7188b4aba919560"), looks := true }, kinds := [], alts := [], laidByText := true, laidKinds := [.data, .data, .data, .data, .sentinel, .sentinel, .pinned], laidTests := true, laidLooks := .later }
def LexWrongCardSaid : Prop := Claim7.holds Tryd.pinned (.plain (OpenSpec.ofChange lexWrongSpec)) lexWrongCard

/-- THE TIED CARD OF 'remontoirlaw15.EvalTells'. -/
def evalTellsCard : Claim7 := { stood := { row := evalTellsRow, standIns := [], harness := (true, "76719ae0e02662daa6583d700eb82c83dd7c7e7b8f26bbccc7188b4aba919560"), looks := true }, kinds := [], alts := [], laidByText := true, laidKinds := [.data, .data, .data, .data, .sentinel, .sentinel, .sentinel, .pinned], laidTests := true, laidLooks := .later }
def EvalTellsCardSaid : Prop := Claim7.holds Tryd.pinned (.plain (OpenSpec.ofChange evalTellsSpec)) evalTellsCard

/-- THE TIED CARD OF 'remontoirlaw15.EvalSets'. -/
def evalSetsCard : Claim7 := { stood := { row := evalSetsRow, standIns := [], harness := (true, "76719ae0e02662daa6583d700eb82c83dd7c7e7b8f26bbccc7188b4aba919560"), looks := true }, kinds := [], alts := [], laidByText := true, laidKinds := [.data, .data, .data, .data, .sentinel, .sentinel, .sentinel, .pinned], laidTests := true, laidLooks := .later }
def EvalSetsCardSaid : Prop := Claim7.holds Tryd.pinned (.plain (OpenSpec.ofChange evalSetsSpec)) evalSetsCard

/-- THE TIED CARD OF 'remontoirlaw15.EvalTurns'. -/
def evalTurnsCard : Claim7 := { stood := { row := evalTurnsRow, standIns := [], harness := (true, "76719ae0e02662daa6583d700eb82c83dd7c7e7b8f26bbccc7188b4aba919560"), looks := true }, kinds := [], alts := [], laidByText := true, laidKinds := [.data, .data, .data, .data, .sentinel, .sentinel, .sentinel, .pinned], laidTests := true, laidLooks := .later }
def EvalTurnsCardSaid : Prop := Claim7.holds Tryd.pinned (.plain (OpenSpec.ofChange evalTurnsSpec)) evalTurnsCard

/-- THE TIED CARD OF 'remontoirlaw15.EvalOrder'. -/
def evalOrderCard : Claim7 := { stood := { row := evalOrderRow, standIns := [], harness := (true, "76719ae0e02662daa6583d700eb82c83dd7c7e7b8f26bbccc7188b4aba919560"), looks := true }, kinds := [], alts := [], laidByText := true, laidKinds := [.data, .data, .data, .data, .sentinel, .sentinel, .sentinel, .pinned], laidTests := true, laidLooks := .later }
def EvalOrderCardSaid : Prop := Claim7.holds Tryd.pinned (.plain (OpenSpec.ofChange evalOrderSpec)) evalOrderCard

/-- THE TIED CARD OF 'remontoirlaw15.EvalSums'. -/
def evalSumsCard : Claim7 := { stood := { row := evalSumsRow, standIns := [], harness := (true, "76719ae0e02662daa6583d700eb82c83dd7c7e7b8f26bbccc7188b4aba919560"), looks := true }, kinds := [], alts := [], laidByText := true, laidKinds := [.data, .data, .data, .data, .sentinel, .sentinel, .sentinel, .pinned], laidTests := true, laidLooks := .later }
def EvalSumsCardSaid : Prop := Claim7.holds Tryd.pinned (.plain (OpenSpec.ofChange evalSumsSpec)) evalSumsCard

/-- THE SECOND FORM's CARD OF 'remontoirlaw13.LexTells'. -/
def lexTellsUptoCard : Claim7 := { stood := { row := lexTellsUptoRow, standIns := [], harness := (true, "76719ae0e02662daa6583d700eb82c83dd7c7e7b8f26bbccc7188b4aba919560"), looks := true }, kinds := [], alts := [], laidByText := true, laidKinds := [.data, .data, .data, .data, .sentinel, .sentinel, .pinned], laidTests := true, laidLooks := .later }
def LexTellsUptoCardSaid : Prop := Claim7.holds Tryd.pinned (.plain (OpenSpec.upto lexTellsSpec)) lexTellsUptoCard

/-- THE SECOND FORM's CARD OF 'remontoirlaw13.LexBack'. -/
def lexBackUptoCard : Claim7 := { stood := { row := lexBackUptoRow, standIns := [], harness := (true, "76719ae0e02662daa6583d700eb82c83dd7c7e7b8f26bbccc7188b4aba919560"), looks := true }, kinds := [], alts := [], laidByText := true, laidKinds := [.data, .data, .data, .data, .sentinel, .sentinel, .pinned], laidTests := true, laidLooks := .later }
def LexBackUptoCardSaid : Prop := Claim7.holds Tryd.pinned (.plain (OpenSpec.upto lexBackSpec)) lexBackUptoCard

/-- THE SECOND FORM's CARD OF 'remontoirlaw13.LexJoins'. -/
def lexJoinsUptoCard : Claim7 := { stood := { row := lexJoinsUptoRow, standIns := [], harness := (true, "76719ae0e02662daa6583d700eb82c83dd7c7e7b8f26bbccc7188b4aba919560"), looks := true }, kinds := [], alts := [], laidByText := true, laidKinds := [.data, .data, .data, .data, .sentinel, .sentinel, .pinned], laidTests := true, laidLooks := .later }
def LexJoinsUptoCardSaid : Prop := Claim7.holds Tryd.pinned (.plain (OpenSpec.upto lexJoinsSpec)) lexJoinsUptoCard

/-- THE SECOND FORM's CARD OF 'remontoirlaw13.LexNumbers'. -/
def lexNumbersUptoCard : Claim7 := { stood := { row := lexNumbersUptoRow, standIns := [], harness := (true, "76719ae0e02662daa6583d700eb82c83dd7c7e7b8f26bbccc7188b4aba919560"), looks := true }, kinds := [], alts := [], laidByText := true, laidKinds := [.data, .data, .data, .data, .sentinel, .sentinel, .pinned], laidTests := true, laidLooks := .later }
def LexNumbersUptoCardSaid : Prop := Claim7.holds Tryd.pinned (.plain (OpenSpec.upto lexNumbersSpec)) lexNumbersUptoCard

/-- THE SECOND FORM's CARD OF 'remontoirlaw13.LexWrong'. -/
def lexWrongUptoCard : Claim7 := { stood := { row := lexWrongUptoRow, standIns := [], harness := (true, "76719ae0e02662daa6583d700eb82c83dd7c7e7b8f26bbccc7188b4aba919560"), looks := true }, kinds := [], alts := [], laidByText := true, laidKinds := [.data, .data, .data, .data, .sentinel, .sentinel, .pinned], laidTests := true, laidLooks := .later }
def LexWrongUptoCardSaid : Prop := Claim7.holds Tryd.pinned (.plain (OpenSpec.upto lexWrongSpec)) lexWrongUptoCard

/-- THE SECOND FORM's CARD OF 'remontoirlaw15.EvalTells'. -/
def evalTellsUptoCard : Claim7 := { stood := { row := evalTellsUptoRow, standIns := [], harness := (true, "76719ae0e02662daa6583d700eb82c83dd7c7e7b8f26bbccc7188b4aba919560"), looks := true }, kinds := [], alts := [], laidByText := true, laidKinds := [.data, .data, .data, .data, .sentinel, .sentinel, .sentinel, .pinned], laidTests := true, laidLooks := .later }
def EvalTellsUptoCardSaid : Prop := Claim7.holds Tryd.pinned (.plain (OpenSpec.upto evalTellsSpec)) evalTellsUptoCard

/-- THE SECOND FORM's CARD OF 'remontoirlaw15.EvalSets'. -/
def evalSetsUptoCard : Claim7 := { stood := { row := evalSetsUptoRow, standIns := [], harness := (true, "76719ae0e02662daa6583d700eb82c83dd7c7e7b8f26bbccc7188b4aba919560"), looks := true }, kinds := [], alts := [], laidByText := true, laidKinds := [.data, .data, .data, .data, .sentinel, .sentinel, .sentinel, .pinned], laidTests := true, laidLooks := .later }
def EvalSetsUptoCardSaid : Prop := Claim7.holds Tryd.pinned (.plain (OpenSpec.upto evalSetsSpec)) evalSetsUptoCard

/-- THE SECOND FORM's CARD OF 'remontoirlaw15.EvalTurns'. -/
def evalTurnsUptoCard : Claim7 := { stood := { row := evalTurnsUptoRow, standIns := [], harness := (true, "76719ae0e02662daa6583d700eb82c83dd7c7e7b8f26bbccc7188b4aba919560"), looks := true }, kinds := [], alts := [], laidByText := true, laidKinds := [.data, .data, .data, .data, .sentinel, .sentinel, .sentinel, .pinned], laidTests := true, laidLooks := .later }
def EvalTurnsUptoCardSaid : Prop := Claim7.holds Tryd.pinned (.plain (OpenSpec.upto evalTurnsSpec)) evalTurnsUptoCard

/-- THE SECOND FORM's CARD OF 'remontoirlaw15.EvalOrder'. -/
def evalOrderUptoCard : Claim7 := { stood := { row := evalOrderUptoRow, standIns := [], harness := (true, "76719ae0e02662daa6583d700eb82c83dd7c7e7b8f26bbccc7188b4aba919560"), looks := true }, kinds := [], alts := [], laidByText := true, laidKinds := [.data, .data, .data, .data, .sentinel, .sentinel, .sentinel, .pinned], laidTests := true, laidLooks := .later }
def EvalOrderUptoCardSaid : Prop := Claim7.holds Tryd.pinned (.plain (OpenSpec.upto evalOrderSpec)) evalOrderUptoCard

/-- THE SECOND FORM's CARD OF 'remontoirlaw15.EvalSums'. -/
def evalSumsUptoCard : Claim7 := { stood := { row := evalSumsUptoRow, standIns := [], harness := (true, "76719ae0e02662daa6583d700eb82c83dd7c7e7b8f26bbccc7188b4aba919560"), looks := true }, kinds := [], alts := [], laidByText := true, laidKinds := [.data, .data, .data, .data, .sentinel, .sentinel, .sentinel, .pinned], laidTests := true, laidLooks := .later }
def EvalSumsUptoCardSaid : Prop := Claim7.holds Tryd.pinned (.plain (OpenSpec.upto evalSumsSpec)) evalSumsUptoCard
end Rows
end Go.Proofs.YtojfdekiponccaaDoor
