/-
  DERIVED. GIVEN WITH THE SEED: THE CARDS: each row of YtfaghjadjpiaiaaDoorRows.lean that lists a variable, with what it lists TIED to the program's text (the seventh form; the later family's looks); each row that meets fmt, with fmt's text TOLD by the authors' own Lean function (tested against real Go, not proved from fmt's source: count such statements apart). THE CARD IS WHAT COUNTS. Prove the row's statement (the work); the ties are given (YtfaghjadjpiaiaaDoorTie.lean); close each card by the builder's one call (the guide's Derived/Test/ToyasCard.lean, 'card_holds'). Laid BY PROGRAM, IN A SANDBOX (cutbox-door.mjs). By AI agents, Wed Nov 11 2026. No macro, syntax, notation, axiom, sorry.
-/
import Derived.Test.YtfaghjadjpiaiaaDoorRows
import GoSem.ClaimSeven
namespace Go.Proofs.YtfaghjadjpiaiaaDoor
namespace Rows

/-- THE TIED CARD OF 'shoringlaw19.ModelRight'. -/
def modelRightCard : Claim7 := { stood := { row := modelRightRow, standIns := [], harness := (true, "d7f7fcd3536b89f0be6cf518a810a9cb219a949df9d9bd4da73c6ab645823245"), looks := true }, kinds := [], alts := [], laidByText := true, laidKinds := [.data], laidTests := true, laidLooks := .later }
def ModelRightCardSaid : Prop := Claim7.holds Tryd.pinned (.plain (OpenSpec.ofChange modelRightSpec)) modelRightCard

/-- THE TIED CARD OF 'shoringlaw17.MoveKeeps'. -/
def moveKeepsCard : Claim7 := { stood := { row := moveKeepsRow, standIns := [], harness := (true, "d7f7fcd3536b89f0be6cf518a810a9cb219a949df9d9bd4da73c6ab645823245"), looks := true }, kinds := [], alts := [], laidByText := true, laidKinds := [.data], laidTests := true, laidLooks := .later }
def MoveKeepsCardSaid : Prop := Claim7.holds Tryd.pinned (.plain (OpenSpec.ofChange moveKeepsSpec)) moveKeepsCard

/-- THE TIED CARD OF 'shoringlaw17.MoveTwice'. -/
def moveTwiceCard : Claim7 := { stood := { row := moveTwiceRow, standIns := [], harness := (true, "d7f7fcd3536b89f0be6cf518a810a9cb219a949df9d9bd4da73c6ab645823245"), looks := true }, kinds := [], alts := [], laidByText := true, laidKinds := [.data], laidTests := true, laidLooks := .later }
def MoveTwiceCardSaid : Prop := Claim7.holds Tryd.pinned (.plain (OpenSpec.ofChange moveTwiceSpec)) moveTwiceCard

/-- THE TIED CARD OF 'shoringlaw17.MoveBack'. -/
def moveBackCard : Claim7 := { stood := { row := moveBackRow, standIns := [], harness := (true, "d7f7fcd3536b89f0be6cf518a810a9cb219a949df9d9bd4da73c6ab645823245"), looks := true }, kinds := [], alts := [], laidByText := true, laidKinds := [.data], laidTests := true, laidLooks := .later }
def MoveBackCardSaid : Prop := Claim7.holds Tryd.pinned (.plain (OpenSpec.ofChange moveBackSpec)) moveBackCard

/-- THE TIED CARD OF 'shoringlaw23.InjectMaps'. -/
def injectMapsCard : Claim7 := { stood := { row := injectMapsRow, standIns := [], harness := (true, "d7f7fcd3536b89f0be6cf518a810a9cb219a949df9d9bd4da73c6ab645823245"), looks := true }, kinds := [], alts := [], laidByText := true, laidKinds := [.data], laidTests := true, laidLooks := .later }
def InjectMapsCardSaid : Prop := Claim7.holds Tryd.pinned (.plain (OpenSpec.ofChange injectMapsSpec)) injectMapsCard

/-- THE TIED CARD OF 'shoringlaw23.InjectGrows'. -/
def injectGrowsCard : Claim7 := { stood := { row := injectGrowsRow, standIns := [], harness := (true, "d7f7fcd3536b89f0be6cf518a810a9cb219a949df9d9bd4da73c6ab645823245"), looks := true }, kinds := [], alts := [], laidByText := true, laidKinds := [.data], laidTests := true, laidLooks := .later }
def InjectGrowsCardSaid : Prop := Claim7.holds Tryd.pinned (.plain (OpenSpec.ofChange injectGrowsSpec)) injectGrowsCard

/-- THE SECOND FORM's CARD OF 'shoringlaw19.ModelRight'. -/
def modelRightUptoCard : Claim7 := { stood := { row := modelRightUptoRow, standIns := [], harness := (true, "d7f7fcd3536b89f0be6cf518a810a9cb219a949df9d9bd4da73c6ab645823245"), looks := true }, kinds := [], alts := [], laidByText := true, laidKinds := [.data], laidTests := true, laidLooks := .later }
def ModelRightUptoCardSaid : Prop := Claim7.holds Tryd.pinned (.plain (OpenSpec.upto modelRightSpec)) modelRightUptoCard

/-- THE SECOND FORM's CARD OF 'shoringlaw17.MoveKeeps'. -/
def moveKeepsUptoCard : Claim7 := { stood := { row := moveKeepsUptoRow, standIns := [], harness := (true, "d7f7fcd3536b89f0be6cf518a810a9cb219a949df9d9bd4da73c6ab645823245"), looks := true }, kinds := [], alts := [], laidByText := true, laidKinds := [.data], laidTests := true, laidLooks := .later }
def MoveKeepsUptoCardSaid : Prop := Claim7.holds Tryd.pinned (.plain (OpenSpec.upto moveKeepsSpec)) moveKeepsUptoCard

/-- THE SECOND FORM's CARD OF 'shoringlaw17.MoveTwice'. -/
def moveTwiceUptoCard : Claim7 := { stood := { row := moveTwiceUptoRow, standIns := [], harness := (true, "d7f7fcd3536b89f0be6cf518a810a9cb219a949df9d9bd4da73c6ab645823245"), looks := true }, kinds := [], alts := [], laidByText := true, laidKinds := [.data], laidTests := true, laidLooks := .later }
def MoveTwiceUptoCardSaid : Prop := Claim7.holds Tryd.pinned (.plain (OpenSpec.upto moveTwiceSpec)) moveTwiceUptoCard

/-- THE SECOND FORM's CARD OF 'shoringlaw17.MoveBack'. -/
def moveBackUptoCard : Claim7 := { stood := { row := moveBackUptoRow, standIns := [], harness := (true, "d7f7fcd3536b89f0be6cf518a810a9cb219a949df9d9bd4da73c6ab645823245"), looks := true }, kinds := [], alts := [], laidByText := true, laidKinds := [.data], laidTests := true, laidLooks := .later }
def MoveBackUptoCardSaid : Prop := Claim7.holds Tryd.pinned (.plain (OpenSpec.upto moveBackSpec)) moveBackUptoCard

/-- THE SECOND FORM's CARD OF 'shoringlaw23.InjectMaps'. -/
def injectMapsUptoCard : Claim7 := { stood := { row := injectMapsUptoRow, standIns := [], harness := (true, "d7f7fcd3536b89f0be6cf518a810a9cb219a949df9d9bd4da73c6ab645823245"), looks := true }, kinds := [], alts := [], laidByText := true, laidKinds := [.data], laidTests := true, laidLooks := .later }
def InjectMapsUptoCardSaid : Prop := Claim7.holds Tryd.pinned (.plain (OpenSpec.upto injectMapsSpec)) injectMapsUptoCard

/-- THE SECOND FORM's CARD OF 'shoringlaw23.InjectGrows'. -/
def injectGrowsUptoCard : Claim7 := { stood := { row := injectGrowsUptoRow, standIns := [], harness := (true, "d7f7fcd3536b89f0be6cf518a810a9cb219a949df9d9bd4da73c6ab645823245"), looks := true }, kinds := [], alts := [], laidByText := true, laidKinds := [.data], laidTests := true, laidLooks := .later }
def InjectGrowsUptoCardSaid : Prop := Claim7.holds Tryd.pinned (.plain (OpenSpec.upto injectGrowsSpec)) injectGrowsUptoCard
end Rows
end Go.Proofs.YtfaghjadjpiaiaaDoor
