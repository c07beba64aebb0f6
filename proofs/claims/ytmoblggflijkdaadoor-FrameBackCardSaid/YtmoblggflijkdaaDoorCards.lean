/-
  DERIVED. GIVEN WITH THE SEED: THE CARDS: each row of YtmoblggflijkdaaDoorRows.lean that lists a variable, with what it lists TIED to the program's text (the seventh form; the later family's looks); each row that meets fmt, with fmt's text TOLD by the authors' own Lean function (tested against real Go, not proved from fmt's source: count such statements apart). THE CARD IS WHAT COUNTS. Prove the row's statement (the work); the ties are given (YtmoblggflijkdaaDoorTie.lean); close each card by the builder's one call (the guide's Derived/Test/ToyasCard.lean, 'card_holds'). Laid BY PROGRAM, IN A SANDBOX (cutbox-door.mjs). By AI agents, Wed Nov 11 2026. No macro, syntax, notation, axiom, sorry.
-/
import Derived.Test.YtmoblggflijkdaaDoorRows
import GoSem.ClaimSeven
namespace Go.Proofs.YtmoblggflijkdaaDoor
namespace Rows

/-- THE TIED CARD OF 'stopcocklaw07.FrameSeals'. -/
def frameSealsCard : Claim7 := { stood := { row := frameSealsRow, standIns := [], harness := (true, "8e087a29d9e67eafffce9bb7248134e4c68bb63f08c2ac30c01cd40b7a65dea1"), looks := false }, kinds := [], alts := [], laidByText := true, laidKinds := [.data], laidTests := true, laidLooks := .later }
def FrameSealsCardSaid : Prop := Claim7.holds Tryd.pinned (.plain (OpenSpec.ofChange frameSealsSpec)) frameSealsCard

/-- THE TIED CARD OF 'stopcocklaw07.FrameOpens'. -/
def frameOpensCard : Claim7 := { stood := { row := frameOpensRow, standIns := [], harness := (true, "8e087a29d9e67eafffce9bb7248134e4c68bb63f08c2ac30c01cd40b7a65dea1"), looks := false }, kinds := [], alts := [], laidByText := true, laidKinds := [.data], laidTests := true, laidLooks := .later }
def FrameOpensCardSaid : Prop := Claim7.holds Tryd.pinned (.plain (OpenSpec.ofChange frameOpensSpec)) frameOpensCard

/-- THE TIED CARD OF 'stopcocklaw07.FrameBack'. -/
def frameBackCard : Claim7 := { stood := { row := frameBackRow, standIns := [], harness := (true, "8e087a29d9e67eafffce9bb7248134e4c68bb63f08c2ac30c01cd40b7a65dea1"), looks := false }, kinds := [], alts := [], laidByText := true, laidKinds := [.data], laidTests := true, laidLooks := .later }
def FrameBackCardSaid : Prop := Claim7.holds Tryd.pinned (.plain (OpenSpec.ofChange frameBackSpec)) frameBackCard

/-- THE TIED CARD OF 'stopcocklaw07.FrameSame'. -/
def frameSameCard : Claim7 := { stood := { row := frameSameRow, standIns := [], harness := (true, "8e087a29d9e67eafffce9bb7248134e4c68bb63f08c2ac30c01cd40b7a65dea1"), looks := false }, kinds := [], alts := [], laidByText := true, laidKinds := [.data], laidTests := true, laidLooks := .later }
def FrameSameCardSaid : Prop := Claim7.holds Tryd.pinned (.plain (OpenSpec.ofChange frameSameSpec)) frameSameCard

/-- THE TIED CARD OF 'stopcocklaw07.FrameBursts'. -/
def frameBurstsCard : Claim7 := { stood := { row := frameBurstsRow, standIns := [], harness := (true, "8e087a29d9e67eafffce9bb7248134e4c68bb63f08c2ac30c01cd40b7a65dea1"), looks := false }, kinds := [], alts := [], laidByText := true, laidKinds := [.data], laidTests := true, laidLooks := .later }
def FrameBurstsCardSaid : Prop := Claim7.holds Tryd.pinned (.plain (OpenSpec.ofChange frameBurstsSpec)) frameBurstsCard

/-- THE TIED CARD OF 'stopcocklaw07.FrameCuts'. -/
def frameCutsCard : Claim7 := { stood := { row := frameCutsRow, standIns := [], harness := (true, "8e087a29d9e67eafffce9bb7248134e4c68bb63f08c2ac30c01cd40b7a65dea1"), looks := false }, kinds := [], alts := [], laidByText := true, laidKinds := [.data], laidTests := true, laidLooks := .later }
def FrameCutsCardSaid : Prop := Claim7.holds Tryd.pinned (.plain (OpenSpec.ofChange frameCutsSpec)) frameCutsCard

/-- THE SECOND FORM's CARD OF 'stopcocklaw07.FrameSeals'. -/
def frameSealsUptoCard : Claim7 := { stood := { row := frameSealsUptoRow, standIns := [], harness := (true, "8e087a29d9e67eafffce9bb7248134e4c68bb63f08c2ac30c01cd40b7a65dea1"), looks := false }, kinds := [], alts := [], laidByText := true, laidKinds := [.data], laidTests := true, laidLooks := .later }
def FrameSealsUptoCardSaid : Prop := Claim7.holds Tryd.pinned (.plain (OpenSpec.upto frameSealsSpec)) frameSealsUptoCard

/-- THE SECOND FORM's CARD OF 'stopcocklaw07.FrameOpens'. -/
def frameOpensUptoCard : Claim7 := { stood := { row := frameOpensUptoRow, standIns := [], harness := (true, "8e087a29d9e67eafffce9bb7248134e4c68bb63f08c2ac30c01cd40b7a65dea1"), looks := false }, kinds := [], alts := [], laidByText := true, laidKinds := [.data], laidTests := true, laidLooks := .later }
def FrameOpensUptoCardSaid : Prop := Claim7.holds Tryd.pinned (.plain (OpenSpec.upto frameOpensSpec)) frameOpensUptoCard

/-- THE SECOND FORM's CARD OF 'stopcocklaw07.FrameBack'. -/
def frameBackUptoCard : Claim7 := { stood := { row := frameBackUptoRow, standIns := [], harness := (true, "8e087a29d9e67eafffce9bb7248134e4c68bb63f08c2ac30c01cd40b7a65dea1"), looks := false }, kinds := [], alts := [], laidByText := true, laidKinds := [.data], laidTests := true, laidLooks := .later }
def FrameBackUptoCardSaid : Prop := Claim7.holds Tryd.pinned (.plain (OpenSpec.upto frameBackSpec)) frameBackUptoCard

/-- THE SECOND FORM's CARD OF 'stopcocklaw07.FrameSame'. -/
def frameSameUptoCard : Claim7 := { stood := { row := frameSameUptoRow, standIns := [], harness := (true, "8e087a29d9e67eafffce9bb7248134e4c68bb63f08c2ac30c01cd40b7a65dea1"), looks := false }, kinds := [], alts := [], laidByText := true, laidKinds := [.data], laidTests := true, laidLooks := .later }
def FrameSameUptoCardSaid : Prop := Claim7.holds Tryd.pinned (.plain (OpenSpec.upto frameSameSpec)) frameSameUptoCard

/-- THE SECOND FORM's CARD OF 'stopcocklaw07.FrameBursts'. -/
def frameBurstsUptoCard : Claim7 := { stood := { row := frameBurstsUptoRow, standIns := [], harness := (true, "8e087a29d9e67eafffce9bb7248134e4c68bb63f08c2ac30c01cd40b7a65dea1"), looks := false }, kinds := [], alts := [], laidByText := true, laidKinds := [.data], laidTests := true, laidLooks := .later }
def FrameBurstsUptoCardSaid : Prop := Claim7.holds Tryd.pinned (.plain (OpenSpec.upto frameBurstsSpec)) frameBurstsUptoCard

/-- THE SECOND FORM's CARD OF 'stopcocklaw07.FrameCuts'. -/
def frameCutsUptoCard : Claim7 := { stood := { row := frameCutsUptoRow, standIns := [], harness := (true, "8e087a29d9e67eafffce9bb7248134e4c68bb63f08c2ac30c01cd40b7a65dea1"), looks := false }, kinds := [], alts := [], laidByText := true, laidKinds := [.data], laidTests := true, laidLooks := .later }
def FrameCutsUptoCardSaid : Prop := Claim7.holds Tryd.pinned (.plain (OpenSpec.upto frameCutsSpec)) frameCutsUptoCard
end Rows
end Go.Proofs.YtmoblggflijkdaaDoor
