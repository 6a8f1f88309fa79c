/-
  DERIVED. GIVEN WITH THE SEED: THE CARDS: each row of YtbioiodjdfcooaaDoorRows.lean that lists a variable, with what it lists TIED to the program's text (the seventh form; the later family's looks); each row that meets fmt, with fmt's text TOLD by the authors' own Lean function (tested against real Go, not proved from fmt's source: count such statements apart). THE CARD IS WHAT COUNTS. Prove the row's statement (the work); the ties are given (YtbioiodjdfcooaaDoorTie.lean); close each card by the builder's one call (the guide's Derived/Test/ToyasCard.lean, 'card_holds'). Laid BY PROGRAM, IN A SANDBOX (cutbox-door.mjs). By AI agents, Wed Nov 11 2026. No macro, syntax, notation, axiom, sorry.
-/
import Derived.Test.YtbioiodjdfcooaaDoorRows
import GoSem.ClaimSeven
namespace Go.Proofs.YtbioiodjdfcooaaDoor
namespace Rows

/-- THE TIED CARD OF 'familychecklaw01.LinearValidates'. -/
def linearValidatesCard : Claim7 := { stood := { row := linearValidatesRow, standIns := [], harness := (true, "dd984c71ffc9a7fb53d766ca8e047738288d957d2ef75981d27eca239f673a54"), looks := false }, kinds := [], alts := [], laidByText := true, laidKinds := [.data, .data, .data], laidTests := true, laidLooks := .later }
def LinearValidatesCardSaid : Prop := Claim7.holds Tryd.pinned (.plain (OpenSpec.ofChange linearValidatesSpec)) linearValidatesCard

/-- THE TIED CARD OF 'familychecklaw01.LinearValues'. -/
def linearValuesCard : Claim7 := { stood := { row := linearValuesRow, standIns := [], harness := (true, "dd984c71ffc9a7fb53d766ca8e047738288d957d2ef75981d27eca239f673a54"), looks := false }, kinds := [], alts := [], laidByText := true, laidKinds := [.data, .data, .data], laidTests := true, laidLooks := .later }
def LinearValuesCardSaid : Prop := Claim7.holds Tryd.pinned (.plain (OpenSpec.ofChange linearValuesSpec)) linearValuesCard

/-- THE TIED CARD OF 'familychecklaw01.LinearTightens'. -/
def linearTightensCard : Claim7 := { stood := { row := linearTightensRow, standIns := [], harness := (true, "dd984c71ffc9a7fb53d766ca8e047738288d957d2ef75981d27eca239f673a54"), looks := false }, kinds := [], alts := [], laidByText := true, laidKinds := [.data, .data, .data], laidTests := true, laidLooks := .later }
def LinearTightensCardSaid : Prop := Claim7.holds Tryd.pinned (.plain (OpenSpec.ofChange linearTightensSpec)) linearTightensCard

/-- THE TIED CARD OF 'familychecklaw01.LinearTightenKeeps'. -/
def linearTightenKeepsCard : Claim7 := { stood := { row := linearTightenKeepsRow, standIns := [], harness := (true, "dd984c71ffc9a7fb53d766ca8e047738288d957d2ef75981d27eca239f673a54"), looks := false }, kinds := [], alts := [], laidByText := true, laidKinds := [.data, .data, .data], laidTests := true, laidLooks := .later }
def LinearTightenKeepsCardSaid : Prop := Claim7.holds Tryd.pinned (.plain (OpenSpec.ofChange linearTightenKeepsSpec)) linearTightenKeepsCard

/-- THE TIED CARD OF 'familychecklaw01.LinearFormats'. -/
def linearFormatsCard : Claim7 := { stood := { row := linearFormatsRow, standIns := [], harness := (true, "dd984c71ffc9a7fb53d766ca8e047738288d957d2ef75981d27eca239f673a54"), looks := false }, kinds := [], alts := [], laidByText := true, laidKinds := [.data, .data, .data], laidTests := true, laidLooks := .later }
def LinearFormatsCardSaid : Prop := Claim7.holds Tryd.pinned (.plain (OpenSpec.ofChange linearFormatsSpec)) linearFormatsCard

/-- THE TIED CARD OF 'familychecklaw01.LinearNegates'. -/
def linearNegatesCard : Claim7 := { stood := { row := linearNegatesRow, standIns := [], harness := (true, "dd984c71ffc9a7fb53d766ca8e047738288d957d2ef75981d27eca239f673a54"), looks := false }, kinds := [], alts := [], laidByText := true, laidKinds := [.data, .data, .data], laidTests := true, laidLooks := .later }
def LinearNegatesCardSaid : Prop := Claim7.holds Tryd.pinned (.plain (OpenSpec.ofChange linearNegatesSpec)) linearNegatesCard

/-- THE TIED CARD OF 'familychecklaw01.LinearSigns'. -/
def linearSignsCard : Claim7 := { stood := { row := linearSignsRow, standIns := [], harness := (true, "dd984c71ffc9a7fb53d766ca8e047738288d957d2ef75981d27eca239f673a54"), looks := false }, kinds := [], alts := [], laidByText := true, laidKinds := [.data, .data, .data], laidTests := true, laidLooks := .later }
def LinearSignsCardSaid : Prop := Claim7.holds Tryd.pinned (.plain (OpenSpec.ofChange linearSignsSpec)) linearSignsCard

/-- THE TIED CARD OF 'familychecklaw01.LinearCombines'. -/
def linearCombinesCard : Claim7 := { stood := { row := linearCombinesRow, standIns := [], harness := (true, "dd984c71ffc9a7fb53d766ca8e047738288d957d2ef75981d27eca239f673a54"), looks := false }, kinds := [], alts := [], laidByText := true, laidKinds := [.data, .data, .data], laidTests := true, laidLooks := .later }
def LinearCombinesCardSaid : Prop := Claim7.holds Tryd.pinned (.plain (OpenSpec.ofChange linearCombinesSpec)) linearCombinesCard

/-- THE TIED CARD OF 'familychecklaw01.LinearAppends'. -/
def linearAppendsCard : Claim7 := { stood := { row := linearAppendsRow, standIns := [], harness := (true, "dd984c71ffc9a7fb53d766ca8e047738288d957d2ef75981d27eca239f673a54"), looks := false }, kinds := [], alts := [], laidByText := true, laidKinds := [.data, .data, .data], laidTests := true, laidLooks := .later }
def LinearAppendsCardSaid : Prop := Claim7.holds Tryd.pinned (.plain (OpenSpec.ofChange linearAppendsSpec)) linearAppendsCard

/-- THE TIED CARD OF 'familychecklaw01.LinearSubstitutes'. -/
def linearSubstitutesCard : Claim7 := { stood := { row := linearSubstitutesRow, standIns := [], harness := (true, "dd984c71ffc9a7fb53d766ca8e047738288d957d2ef75981d27eca239f673a54"), looks := false }, kinds := [], alts := [], laidByText := true, laidKinds := [.data, .data, .data], laidTests := true, laidLooks := .later }
def LinearSubstitutesCardSaid : Prop := Claim7.holds Tryd.pinned (.plain (OpenSpec.ofChange linearSubstitutesSpec)) linearSubstitutesCard

/-- THE TIED CARD OF 'familychecklaw01.LinearSubstituteMeans'. -/
def linearSubstituteMeansCard : Claim7 := { stood := { row := linearSubstituteMeansRow, standIns := [], harness := (true, "dd984c71ffc9a7fb53d766ca8e047738288d957d2ef75981d27eca239f673a54"), looks := false }, kinds := [], alts := [], laidByText := true, laidKinds := [.data, .data, .data], laidTests := true, laidLooks := .later }
def LinearSubstituteMeansCardSaid : Prop := Claim7.holds Tryd.pinned (.plain (OpenSpec.ofChange linearSubstituteMeansSpec)) linearSubstituteMeansCard

/-- THE TIED CARD OF 'familychecklaw01.LinearLeast'. -/
def linearLeastCard : Claim7 := { stood := { row := linearLeastRow, standIns := [], harness := (true, "dd984c71ffc9a7fb53d766ca8e047738288d957d2ef75981d27eca239f673a54"), looks := false }, kinds := [], alts := [], laidByText := true, laidKinds := [.data, .data, .data], laidTests := true, laidLooks := .later }
def LinearLeastCardSaid : Prop := Claim7.holds Tryd.pinned (.plain (OpenSpec.ofChange linearLeastSpec)) linearLeastCard

/-- THE SECOND FORM's CARD OF 'familychecklaw01.LinearValidates'. -/
def linearValidatesUptoCard : Claim7 := { stood := { row := linearValidatesUptoRow, standIns := [], harness := (true, "dd984c71ffc9a7fb53d766ca8e047738288d957d2ef75981d27eca239f673a54"), looks := false }, kinds := [], alts := [], laidByText := true, laidKinds := [.data, .data, .data], laidTests := true, laidLooks := .later }
def LinearValidatesUptoCardSaid : Prop := Claim7.holds Tryd.pinned (.plain (OpenSpec.upto linearValidatesSpec)) linearValidatesUptoCard

/-- THE SECOND FORM's CARD OF 'familychecklaw01.LinearValues'. -/
def linearValuesUptoCard : Claim7 := { stood := { row := linearValuesUptoRow, standIns := [], harness := (true, "dd984c71ffc9a7fb53d766ca8e047738288d957d2ef75981d27eca239f673a54"), looks := false }, kinds := [], alts := [], laidByText := true, laidKinds := [.data, .data, .data], laidTests := true, laidLooks := .later }
def LinearValuesUptoCardSaid : Prop := Claim7.holds Tryd.pinned (.plain (OpenSpec.upto linearValuesSpec)) linearValuesUptoCard

/-- THE SECOND FORM's CARD OF 'familychecklaw01.LinearTightens'. -/
def linearTightensUptoCard : Claim7 := { stood := { row := linearTightensUptoRow, standIns := [], harness := (true, "dd984c71ffc9a7fb53d766ca8e047738288d957d2ef75981d27eca239f673a54"), looks := false }, kinds := [], alts := [], laidByText := true, laidKinds := [.data, .data, .data], laidTests := true, laidLooks := .later }
def LinearTightensUptoCardSaid : Prop := Claim7.holds Tryd.pinned (.plain (OpenSpec.upto linearTightensSpec)) linearTightensUptoCard

/-- THE SECOND FORM's CARD OF 'familychecklaw01.LinearTightenKeeps'. -/
def linearTightenKeepsUptoCard : Claim7 := { stood := { row := linearTightenKeepsUptoRow, standIns := [], harness := (true, "dd984c71ffc9a7fb53d766ca8e047738288d957d2ef75981d27eca239f673a54"), looks := false }, kinds := [], alts := [], laidByText := true, laidKinds := [.data, .data, .data], laidTests := true, laidLooks := .later }
def LinearTightenKeepsUptoCardSaid : Prop := Claim7.holds Tryd.pinned (.plain (OpenSpec.upto linearTightenKeepsSpec)) linearTightenKeepsUptoCard

/-- THE SECOND FORM's CARD OF 'familychecklaw01.LinearFormats'. -/
def linearFormatsUptoCard : Claim7 := { stood := { row := linearFormatsUptoRow, standIns := [], harness := (true, "dd984c71ffc9a7fb53d766ca8e047738288d957d2ef75981d27eca239f673a54"), looks := false }, kinds := [], alts := [], laidByText := true, laidKinds := [.data, .data, .data], laidTests := true, laidLooks := .later }
def LinearFormatsUptoCardSaid : Prop := Claim7.holds Tryd.pinned (.plain (OpenSpec.upto linearFormatsSpec)) linearFormatsUptoCard

/-- THE SECOND FORM's CARD OF 'familychecklaw01.LinearNegates'. -/
def linearNegatesUptoCard : Claim7 := { stood := { row := linearNegatesUptoRow, standIns := [], harness := (true, "dd984c71ffc9a7fb53d766ca8e047738288d957d2ef75981d27eca239f673a54"), looks := false }, kinds := [], alts := [], laidByText := true, laidKinds := [.data, .data, .data], laidTests := true, laidLooks := .later }
def LinearNegatesUptoCardSaid : Prop := Claim7.holds Tryd.pinned (.plain (OpenSpec.upto linearNegatesSpec)) linearNegatesUptoCard

/-- THE SECOND FORM's CARD OF 'familychecklaw01.LinearSigns'. -/
def linearSignsUptoCard : Claim7 := { stood := { row := linearSignsUptoRow, standIns := [], harness := (true, "dd984c71ffc9a7fb53d766ca8e047738288d957d2ef75981d27eca239f673a54"), looks := false }, kinds := [], alts := [], laidByText := true, laidKinds := [.data, .data, .data], laidTests := true, laidLooks := .later }
def LinearSignsUptoCardSaid : Prop := Claim7.holds Tryd.pinned (.plain (OpenSpec.upto linearSignsSpec)) linearSignsUptoCard

/-- THE SECOND FORM's CARD OF 'familychecklaw01.LinearCombines'. -/
def linearCombinesUptoCard : Claim7 := { stood := { row := linearCombinesUptoRow, standIns := [], harness := (true, "dd984c71ffc9a7fb53d766ca8e047738288d957d2ef75981d27eca239f673a54"), looks := false }, kinds := [], alts := [], laidByText := true, laidKinds := [.data, .data, .data], laidTests := true, laidLooks := .later }
def LinearCombinesUptoCardSaid : Prop := Claim7.holds Tryd.pinned (.plain (OpenSpec.upto linearCombinesSpec)) linearCombinesUptoCard

/-- THE SECOND FORM's CARD OF 'familychecklaw01.LinearAppends'. -/
def linearAppendsUptoCard : Claim7 := { stood := { row := linearAppendsUptoRow, standIns := [], harness := (true, "dd984c71ffc9a7fb53d766ca8e047738288d957d2ef75981d27eca239f673a54"), looks := false }, kinds := [], alts := [], laidByText := true, laidKinds := [.data, .data, .data], laidTests := true, laidLooks := .later }
def LinearAppendsUptoCardSaid : Prop := Claim7.holds Tryd.pinned (.plain (OpenSpec.upto linearAppendsSpec)) linearAppendsUptoCard

/-- THE SECOND FORM's CARD OF 'familychecklaw01.LinearSubstitutes'. -/
def linearSubstitutesUptoCard : Claim7 := { stood := { row := linearSubstitutesUptoRow, standIns := [], harness := (true, "dd984c71ffc9a7fb53d766ca8e047738288d957d2ef75981d27eca239f673a54"), looks := false }, kinds := [], alts := [], laidByText := true, laidKinds := [.data, .data, .data], laidTests := true, laidLooks := .later }
def LinearSubstitutesUptoCardSaid : Prop := Claim7.holds Tryd.pinned (.plain (OpenSpec.upto linearSubstitutesSpec)) linearSubstitutesUptoCard

/-- THE SECOND FORM's CARD OF 'familychecklaw01.LinearSubstituteMeans'. -/
def linearSubstituteMeansUptoCard : Claim7 := { stood := { row := linearSubstituteMeansUptoRow, standIns := [], harness := (true, "dd984c71ffc9a7fb53d766ca8e047738288d957d2ef75981d27eca239f673a54"), looks := false }, kinds := [], alts := [], laidByText := true, laidKinds := [.data, .data, .data], laidTests := true, laidLooks := .later }
def LinearSubstituteMeansUptoCardSaid : Prop := Claim7.holds Tryd.pinned (.plain (OpenSpec.upto linearSubstituteMeansSpec)) linearSubstituteMeansUptoCard

/-- THE SECOND FORM's CARD OF 'familychecklaw01.LinearLeast'. -/
def linearLeastUptoCard : Claim7 := { stood := { row := linearLeastUptoRow, standIns := [], harness := (true, "dd984c71ffc9a7fb53d766ca8e047738288d957d2ef75981d27eca239f673a54"), looks := false }, kinds := [], alts := [], laidByText := true, laidKinds := [.data, .data, .data], laidTests := true, laidLooks := .later }
def LinearLeastUptoCardSaid : Prop := Claim7.holds Tryd.pinned (.plain (OpenSpec.upto linearLeastSpec)) linearLeastUptoCard
end Rows
end Go.Proofs.YtbioiodjdfcooaaDoor
