/-
  DERIVED. GIVEN WITH THE SEED: THE CARDS: each row of YtbioiodjdfcooabDoorRows.lean that lists a variable, with what it lists TIED to the program's text (the seventh form; the later family's looks); each row that meets fmt, with fmt's text TOLD by the authors' own Lean function (tested against real Go, not proved from fmt's source: count such statements apart). THE CARD IS WHAT COUNTS. Prove the row's statement (the work); the ties are given (YtbioiodjdfcooabDoorTie.lean); close each card by the builder's one call (the guide's Derived/Test/ToyasCard.lean, 'card_holds'). Laid BY PROGRAM, IN A SANDBOX (cutbox-door.mjs). By AI agents, Wed Nov 11 2026. No macro, syntax, notation, axiom, sorry.
-/
import Derived.Test.YtbioiodjdfcooabDoorRows
import GoSem.ClaimSeven
namespace Go.Proofs.YtbioiodjdfcooabDoor
namespace Rows

/-- THE TIED CARD OF 'familychecklaw01.LinearLeastFirst'. -/
def linearLeastFirstCard : Claim7 := { stood := { row := linearLeastFirstRow, standIns := [], harness := (true, "f0f54e9ddeb038d76a826b33c23b6b9eb23fda56959dfda6807b70bf9f5725b5"), looks := false }, kinds := [], alts := [], laidByText := true, laidKinds := [.data, .data, .data], laidTests := true, laidLooks := .later }
def LinearLeastFirstCardSaid : Prop := Claim7.holds Tryd.pinned (.plain (OpenSpec.ofChange linearLeastFirstSpec)) linearLeastFirstCard

/-- THE TIED CARD OF 'familychecklaw01.LinearCompares'. -/
def linearComparesCard : Claim7 := { stood := { row := linearComparesRow, standIns := [], harness := (true, "f0f54e9ddeb038d76a826b33c23b6b9eb23fda56959dfda6807b70bf9f5725b5"), looks := false }, kinds := [], alts := [], laidByText := true, laidKinds := [.data, .data, .data], laidTests := true, laidLooks := .later }
def LinearComparesCardSaid : Prop := Claim7.holds Tryd.pinned (.plain (OpenSpec.ofChange linearComparesSpec)) linearComparesCard

/-- THE TIED CARD OF 'familychecklaw02.ProtocolNames'. -/
def protocolNamesCard : Claim7 := { stood := { row := protocolNamesRow, standIns := [], harness := (true, "f0f54e9ddeb038d76a826b33c23b6b9eb23fda56959dfda6807b70bf9f5725b5"), looks := false }, kinds := [], alts := [], laidByText := true, laidKinds := [.data, .data, .data, .listed, .data], laidTests := true, laidLooks := .later }
def ProtocolNamesCardSaid : Prop := Claim7.holds Tryd.pinned (.plain (OpenSpec.ofChange protocolNamesSpec)) protocolNamesCard

/-- THE TIED CARD OF 'familychecklaw02.ProtocolLinears'. -/
def protocolLinearsCard : Claim7 := { stood := { row := protocolLinearsRow, standIns := [], harness := (true, "f0f54e9ddeb038d76a826b33c23b6b9eb23fda56959dfda6807b70bf9f5725b5"), looks := false }, kinds := [], alts := [], laidByText := true, laidKinds := [.data, .data, .data, .listed, .data], laidTests := true, laidLooks := .later }
def ProtocolLinearsCardSaid : Prop := Claim7.holds Tryd.pinned (.plain (OpenSpec.ofChange protocolLinearsSpec)) protocolLinearsCard

/-- THE TIED CARD OF 'familychecklaw01.LinearChecks'. -/
def linearChecksCard : Claim7 := { stood := { row := linearChecksRow, standIns := [], harness := (true, "f0f54e9ddeb038d76a826b33c23b6b9eb23fda56959dfda6807b70bf9f5725b5"), looks := false }, kinds := [], alts := [], laidByText := true, laidKinds := [.data, .data, .data], laidTests := true, laidLooks := .later }
def LinearChecksCardSaid : Prop := Claim7.holds Tryd.pinned (.plain (OpenSpec.ofChange linearChecksSpec)) linearChecksCard

/-- THE TIED CARD OF 'familychecklaw01.LinearSound'. -/
def linearSoundCard : Claim7 := { stood := { row := linearSoundRow, standIns := [], harness := (true, "f0f54e9ddeb038d76a826b33c23b6b9eb23fda56959dfda6807b70bf9f5725b5"), looks := false }, kinds := [], alts := [], laidByText := true, laidKinds := [.data, .data, .data], laidTests := true, laidLooks := .later }
def LinearSoundCardSaid : Prop := Claim7.holds Tryd.pinned (.plain (OpenSpec.ofChange linearSoundSpec)) linearSoundCard

/-- THE TIED CARD OF 'familychecklaw01.LinearLeaves'. -/
def linearLeavesCard : Claim7 := { stood := { row := linearLeavesRow, standIns := [], harness := (true, "f0f54e9ddeb038d76a826b33c23b6b9eb23fda56959dfda6807b70bf9f5725b5"), looks := false }, kinds := [], alts := [], laidByText := true, laidKinds := [.data, .data, .data], laidTests := true, laidLooks := .later }
def LinearLeavesCardSaid : Prop := Claim7.holds Tryd.pinned (.plain (OpenSpec.ofChange linearLeavesSpec)) linearLeavesCard

/-- THE SECOND FORM's CARD OF 'familychecklaw01.LinearLeastFirst'. -/
def linearLeastFirstUptoCard : Claim7 := { stood := { row := linearLeastFirstUptoRow, standIns := [], harness := (true, "f0f54e9ddeb038d76a826b33c23b6b9eb23fda56959dfda6807b70bf9f5725b5"), looks := false }, kinds := [], alts := [], laidByText := true, laidKinds := [.data, .data, .data], laidTests := true, laidLooks := .later }
def LinearLeastFirstUptoCardSaid : Prop := Claim7.holds Tryd.pinned (.plain (OpenSpec.upto linearLeastFirstSpec)) linearLeastFirstUptoCard

/-- THE SECOND FORM's CARD OF 'familychecklaw01.LinearCompares'. -/
def linearComparesUptoCard : Claim7 := { stood := { row := linearComparesUptoRow, standIns := [], harness := (true, "f0f54e9ddeb038d76a826b33c23b6b9eb23fda56959dfda6807b70bf9f5725b5"), looks := false }, kinds := [], alts := [], laidByText := true, laidKinds := [.data, .data, .data], laidTests := true, laidLooks := .later }
def LinearComparesUptoCardSaid : Prop := Claim7.holds Tryd.pinned (.plain (OpenSpec.upto linearComparesSpec)) linearComparesUptoCard

/-- THE SECOND FORM's CARD OF 'familychecklaw02.ProtocolNames'. -/
def protocolNamesUptoCard : Claim7 := { stood := { row := protocolNamesUptoRow, standIns := [], harness := (true, "f0f54e9ddeb038d76a826b33c23b6b9eb23fda56959dfda6807b70bf9f5725b5"), looks := false }, kinds := [], alts := [], laidByText := true, laidKinds := [.data, .data, .data, .listed, .data], laidTests := true, laidLooks := .later }
def ProtocolNamesUptoCardSaid : Prop := Claim7.holds Tryd.pinned (.plain (OpenSpec.upto protocolNamesSpec)) protocolNamesUptoCard

/-- THE SECOND FORM's CARD OF 'familychecklaw02.ProtocolLinears'. -/
def protocolLinearsUptoCard : Claim7 := { stood := { row := protocolLinearsUptoRow, standIns := [], harness := (true, "f0f54e9ddeb038d76a826b33c23b6b9eb23fda56959dfda6807b70bf9f5725b5"), looks := false }, kinds := [], alts := [], laidByText := true, laidKinds := [.data, .data, .data, .listed, .data], laidTests := true, laidLooks := .later }
def ProtocolLinearsUptoCardSaid : Prop := Claim7.holds Tryd.pinned (.plain (OpenSpec.upto protocolLinearsSpec)) protocolLinearsUptoCard

/-- THE SECOND FORM's CARD OF 'familychecklaw01.LinearChecks'. -/
def linearChecksUptoCard : Claim7 := { stood := { row := linearChecksUptoRow, standIns := [], harness := (true, "f0f54e9ddeb038d76a826b33c23b6b9eb23fda56959dfda6807b70bf9f5725b5"), looks := false }, kinds := [], alts := [], laidByText := true, laidKinds := [.data, .data, .data], laidTests := true, laidLooks := .later }
def LinearChecksUptoCardSaid : Prop := Claim7.holds Tryd.pinned (.plain (OpenSpec.upto linearChecksSpec)) linearChecksUptoCard

/-- THE SECOND FORM's CARD OF 'familychecklaw01.LinearSound'. -/
def linearSoundUptoCard : Claim7 := { stood := { row := linearSoundUptoRow, standIns := [], harness := (true, "f0f54e9ddeb038d76a826b33c23b6b9eb23fda56959dfda6807b70bf9f5725b5"), looks := false }, kinds := [], alts := [], laidByText := true, laidKinds := [.data, .data, .data], laidTests := true, laidLooks := .later }
def LinearSoundUptoCardSaid : Prop := Claim7.holds Tryd.pinned (.plain (OpenSpec.upto linearSoundSpec)) linearSoundUptoCard

/-- THE SECOND FORM's CARD OF 'familychecklaw01.LinearLeaves'. -/
def linearLeavesUptoCard : Claim7 := { stood := { row := linearLeavesUptoRow, standIns := [], harness := (true, "f0f54e9ddeb038d76a826b33c23b6b9eb23fda56959dfda6807b70bf9f5725b5"), looks := false }, kinds := [], alts := [], laidByText := true, laidKinds := [.data, .data, .data], laidTests := true, laidLooks := .later }
def LinearLeavesUptoCardSaid : Prop := Claim7.holds Tryd.pinned (.plain (OpenSpec.upto linearLeavesSpec)) linearLeavesUptoCard
end Rows
end Go.Proofs.YtbioiodjdfcooabDoor
