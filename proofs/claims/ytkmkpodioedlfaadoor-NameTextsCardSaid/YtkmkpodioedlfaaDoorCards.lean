/-
  DERIVED. GIVEN WITH THE SEED: THE CARDS: each row of YtkmkpodioedlfaaDoorRows.lean that lists a variable, with what it lists TIED to the program's text (the seventh form; the later family's looks); each row that meets fmt, with fmt's text TOLD by the authors' own Lean function (tested against real Go, not proved from fmt's source: count such statements apart). THE CARD IS WHAT COUNTS. Prove the row's statement (the work); the ties are given (YtkmkpodioedlfaaDoorTie.lean); close each card by the builder's one call (the guide's Derived/Test/ToyasCard.lean, 'card_holds'). Laid BY PROGRAM, IN A SANDBOX (cutbox-door.mjs). By AI agents, Wed Nov 11 2026. No macro, syntax, notation, axiom, sorry.
-/
import Derived.Test.YtkmkpodioedlfaaDoorRows
import GoSem.ClaimSeven
namespace Go.Proofs.YtkmkpodioedlfaaDoor
namespace Rows

/-- THE TIED CARD OF 'fingerpostlaw03.NameTexts'. -/
def nameTextsCard : Claim7 := { stood := { row := nameTextsRow, standIns := [], harness := (true, "f39b0e937ba508e96ba4ac74eb8a6fc3159d6e4a039ba1812b3fbfa61c36ae52"), looks := false }, kinds := [], alts := [], laidByText := true, laidKinds := [.data, .data, .data], laidTests := true, laidLooks := .later }
def NameTextsCardSaid : Prop := Claim7.holds Tryd.pinned (.plain (OpenSpec.ofChange nameTextsSpec)) nameTextsCard

/-- THE SECOND FORM's CARD OF 'fingerpostlaw03.NameTexts'. -/
def nameTextsUptoCard : Claim7 := { stood := { row := nameTextsUptoRow, standIns := [], harness := (true, "f39b0e937ba508e96ba4ac74eb8a6fc3159d6e4a039ba1812b3fbfa61c36ae52"), looks := false }, kinds := [], alts := [], laidByText := true, laidKinds := [.data, .data, .data], laidTests := true, laidLooks := .later }
def NameTextsUptoCardSaid : Prop := Claim7.holds Tryd.pinned (.plain (OpenSpec.upto nameTextsSpec)) nameTextsUptoCard
end Rows
end Go.Proofs.YtkmkpodioedlfaaDoor
