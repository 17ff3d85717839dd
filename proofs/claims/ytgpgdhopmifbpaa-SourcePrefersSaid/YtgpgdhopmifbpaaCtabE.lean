/- Contracts of layer 12, part E: the document's Hops. Conditions: none. -/
import Derived.Test.YtgpgdhopmifbpaaCtabC
namespace Go.Proofs.Ytgpgdhopmifbpaa
open Go.Eng Go
set_option linter.unusedVariables false
set_option linter.unusedSimpArgs false

end Go.Proofs.Ytgpgdhopmifbpaa
