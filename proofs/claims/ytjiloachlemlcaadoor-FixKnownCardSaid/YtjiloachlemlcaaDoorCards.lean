/-
  DERIVED. GIVEN WITH THE SEED: THE CARDS: each row of YtjiloachlemlcaaDoorRows.lean that lists a variable, with what it lists TIED to the program's text (the seventh form; the later family's looks); each row that meets fmt, with fmt's text TOLD by the authors' own Lean function (tested against real Go, not proved from fmt's source: count such statements apart). THE CARD IS WHAT COUNTS. Prove the row's statement (the work); the ties are given (YtjiloachlemlcaaDoorTie.lean); close each card by the builder's one call (the guide's Derived/Test/ToyasCard.lean, 'card_holds'). Laid BY PROGRAM, IN A SANDBOX (cutbox-door.mjs). By AI agents, Wed Nov 11 2026. No macro, syntax, notation, axiom, sorry.
-/
import Derived.Test.YtjiloachlemlcaaDoorRows
import GoSem.ClaimSeven
namespace Go.Proofs.YtjiloachlemlcaaDoor
namespace Rows

/-- THE TIED CARD OF 'carousellaw1.FixSays'. -/
def fixSaysCard : Claim7 := { stood := { row := fixSaysRow, standIns := [], harness := (true, "f772dcf0a1879f9f3fca9ea14e5490e1b9de49d97345201e67be1eb0c251e0e9"), looks := false }, kinds := [], alts := [], laidByText := true, laidKinds := [.data, .data, .data], laidTests := true, laidLooks := .later }
def FixSaysCardSaid : Prop := Claim7.holds Tryd.pinned (.plain (OpenSpec.ofChange fixSaysSpec)) fixSaysCard

/-- THE TIED CARD OF 'carousellaw1.FixNear'. -/
def fixNearCard : Claim7 := { stood := { row := fixNearRow, standIns := [], harness := (true, "f772dcf0a1879f9f3fca9ea14e5490e1b9de49d97345201e67be1eb0c251e0e9"), looks := false }, kinds := [], alts := [], laidByText := true, laidKinds := [.data, .data, .data], laidTests := true, laidLooks := .later }
def FixNearCardSaid : Prop := Claim7.holds Tryd.pinned (.plain (OpenSpec.ofChange fixNearSpec)) fixNearCard

/-- THE TIED CARD OF 'carousellaw1.FixHeld'. -/
def fixHeldCard : Claim7 := { stood := { row := fixHeldRow, standIns := [], harness := (true, "f772dcf0a1879f9f3fca9ea14e5490e1b9de49d97345201e67be1eb0c251e0e9"), looks := false }, kinds := [], alts := [], laidByText := true, laidKinds := [.data, .data, .data], laidTests := true, laidLooks := .later }
def FixHeldCardSaid : Prop := Claim7.holds Tryd.pinned (.plain (OpenSpec.ofChange fixHeldSpec)) fixHeldCard

/-- THE TIED CARD OF 'carousellaw1.FixRises'. -/
def fixRisesCard : Claim7 := { stood := { row := fixRisesRow, standIns := [], harness := (true, "f772dcf0a1879f9f3fca9ea14e5490e1b9de49d97345201e67be1eb0c251e0e9"), looks := false }, kinds := [], alts := [], laidByText := true, laidKinds := [.data, .data, .data], laidTests := true, laidLooks := .later }
def FixRisesCardSaid : Prop := Claim7.holds Tryd.pinned (.plain (OpenSpec.ofChange fixRisesSpec)) fixRisesCard

/-- THE TIED CARD OF 'carousellaw1.FixKnown'. -/
def fixKnownCard : Claim7 := { stood := { row := fixKnownRow, standIns := [], harness := (true, "f772dcf0a1879f9f3fca9ea14e5490e1b9de49d97345201e67be1eb0c251e0e9"), looks := false }, kinds := [], alts := [], laidByText := true, laidKinds := [.data, .data, .data], laidTests := true, laidLooks := .later }
def FixKnownCardSaid : Prop := Claim7.holds Tryd.pinned (.plain (OpenSpec.ofChange fixKnownSpec)) fixKnownCard

/-- THE TIED CARD OF 'carousellaw1.FixTurns'. -/
def fixTurnsCard : Claim7 := { stood := { row := fixTurnsRow, standIns := [], harness := (true, "f772dcf0a1879f9f3fca9ea14e5490e1b9de49d97345201e67be1eb0c251e0e9"), looks := false }, kinds := [], alts := [], laidByText := true, laidKinds := [.data, .data, .data], laidTests := true, laidLooks := .later }
def FixTurnsCardSaid : Prop := Claim7.holds Tryd.pinned (.plain (OpenSpec.ofChange fixTurnsSpec)) fixTurnsCard

/-- THE TIED CARD OF 'carousellaw1.FixWhole'. -/
def fixWholeCard : Claim7 := { stood := { row := fixWholeRow, standIns := [], harness := (true, "f772dcf0a1879f9f3fca9ea14e5490e1b9de49d97345201e67be1eb0c251e0e9"), looks := false }, kinds := [], alts := [], laidByText := true, laidKinds := [.data, .data, .data], laidTests := true, laidLooks := .later }
def FixWholeCardSaid : Prop := Claim7.holds Tryd.pinned (.plain (OpenSpec.ofChange fixWholeSpec)) fixWholeCard

/-- THE TIED CARD OF 'carousellaw1.FixReckons'. -/
def fixReckonsCard : Claim7 := { stood := { row := fixReckonsRow, standIns := [], harness := (true, "f772dcf0a1879f9f3fca9ea14e5490e1b9de49d97345201e67be1eb0c251e0e9"), looks := false }, kinds := [], alts := [], laidByText := true, laidKinds := [.data, .data, .data], laidTests := true, laidLooks := .later }
def FixReckonsCardSaid : Prop := Claim7.holds Tryd.pinned (.plain (OpenSpec.ofChange fixReckonsSpec)) fixReckonsCard

/-- THE SECOND FORM's CARD OF 'carousellaw1.FixSays'. -/
def fixSaysUptoCard : Claim7 := { stood := { row := fixSaysUptoRow, standIns := [], harness := (true, "f772dcf0a1879f9f3fca9ea14e5490e1b9de49d97345201e67be1eb0c251e0e9"), looks := false }, kinds := [], alts := [], laidByText := true, laidKinds := [.data, .data, .data], laidTests := true, laidLooks := .later }
def FixSaysUptoCardSaid : Prop := Claim7.holds Tryd.pinned (.plain (OpenSpec.upto fixSaysSpec)) fixSaysUptoCard

/-- THE SECOND FORM's CARD OF 'carousellaw1.FixNear'. -/
def fixNearUptoCard : Claim7 := { stood := { row := fixNearUptoRow, standIns := [], harness := (true, "f772dcf0a1879f9f3fca9ea14e5490e1b9de49d97345201e67be1eb0c251e0e9"), looks := false }, kinds := [], alts := [], laidByText := true, laidKinds := [.data, .data, .data], laidTests := true, laidLooks := .later }
def FixNearUptoCardSaid : Prop := Claim7.holds Tryd.pinned (.plain (OpenSpec.upto fixNearSpec)) fixNearUptoCard

/-- THE SECOND FORM's CARD OF 'carousellaw1.FixHeld'. -/
def fixHeldUptoCard : Claim7 := { stood := { row := fixHeldUptoRow, standIns := [], harness := (true, "f772dcf0a1879f9f3fca9ea14e5490e1b9de49d97345201e67be1eb0c251e0e9"), looks := false }, kinds := [], alts := [], laidByText := true, laidKinds := [.data, .data, .data], laidTests := true, laidLooks := .later }
def FixHeldUptoCardSaid : Prop := Claim7.holds Tryd.pinned (.plain (OpenSpec.upto fixHeldSpec)) fixHeldUptoCard

/-- THE SECOND FORM's CARD OF 'carousellaw1.FixRises'. -/
def fixRisesUptoCard : Claim7 := { stood := { row := fixRisesUptoRow, standIns := [], harness := (true, "f772dcf0a1879f9f3fca9ea14e5490e1b9de49d97345201e67be1eb0c251e0e9"), looks := false }, kinds := [], alts := [], laidByText := true, laidKinds := [.data, .data, .data], laidTests := true, laidLooks := .later }
def FixRisesUptoCardSaid : Prop := Claim7.holds Tryd.pinned (.plain (OpenSpec.upto fixRisesSpec)) fixRisesUptoCard

/-- THE SECOND FORM's CARD OF 'carousellaw1.FixKnown'. -/
def fixKnownUptoCard : Claim7 := { stood := { row := fixKnownUptoRow, standIns := [], harness := (true, "f772dcf0a1879f9f3fca9ea14e5490e1b9de49d97345201e67be1eb0c251e0e9"), looks := false }, kinds := [], alts := [], laidByText := true, laidKinds := [.data, .data, .data], laidTests := true, laidLooks := .later }
def FixKnownUptoCardSaid : Prop := Claim7.holds Tryd.pinned (.plain (OpenSpec.upto fixKnownSpec)) fixKnownUptoCard

/-- THE SECOND FORM's CARD OF 'carousellaw1.FixTurns'. -/
def fixTurnsUptoCard : Claim7 := { stood := { row := fixTurnsUptoRow, standIns := [], harness := (true, "f772dcf0a1879f9f3fca9ea14e5490e1b9de49d97345201e67be1eb0c251e0e9"), looks := false }, kinds := [], alts := [], laidByText := true, laidKinds := [.data, .data, .data], laidTests := true, laidLooks := .later }
def FixTurnsUptoCardSaid : Prop := Claim7.holds Tryd.pinned (.plain (OpenSpec.upto fixTurnsSpec)) fixTurnsUptoCard

/-- THE SECOND FORM's CARD OF 'carousellaw1.FixWhole'. -/
def fixWholeUptoCard : Claim7 := { stood := { row := fixWholeUptoRow, standIns := [], harness := (true, "f772dcf0a1879f9f3fca9ea14e5490e1b9de49d97345201e67be1eb0c251e0e9"), looks := false }, kinds := [], alts := [], laidByText := true, laidKinds := [.data, .data, .data], laidTests := true, laidLooks := .later }
def FixWholeUptoCardSaid : Prop := Claim7.holds Tryd.pinned (.plain (OpenSpec.upto fixWholeSpec)) fixWholeUptoCard

/-- THE SECOND FORM's CARD OF 'carousellaw1.FixReckons'. -/
def fixReckonsUptoCard : Claim7 := { stood := { row := fixReckonsUptoRow, standIns := [], harness := (true, "f772dcf0a1879f9f3fca9ea14e5490e1b9de49d97345201e67be1eb0c251e0e9"), looks := false }, kinds := [], alts := [], laidByText := true, laidKinds := [.data, .data, .data], laidTests := true, laidLooks := .later }
def FixReckonsUptoCardSaid : Prop := Claim7.holds Tryd.pinned (.plain (OpenSpec.upto fixReckonsSpec)) fixReckonsUptoCard
end Rows
end Go.Proofs.YtjiloachlemlcaaDoor
