/- What ref07.Find answers: the greatest finite word that isn't above a number. -/
import Derived.Test.YtefpoconpeggpaaGreatDoorL21
namespace Go.Proofs.YtefpoconpeggpaaGreatDoor.Rd
open Go Go.RowKit
set_option linter.unusedVariables false
set_option linter.unusedSimpArgs false
set_option maxRecDepth 100000

end Go.Proofs.YtefpoconpeggpaaGreatDoor.Rd
