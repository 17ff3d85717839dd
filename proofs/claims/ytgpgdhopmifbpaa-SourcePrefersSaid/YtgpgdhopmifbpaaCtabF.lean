/- Contracts of layer 12, part F: the document's Add. Conditions: a list of eight at most. -/
import Derived.Test.YtgpgdhopmifbpaaCtabE
namespace Go.Proofs.Ytgpgdhopmifbpaa
open Go.Eng Go
set_option linter.unusedVariables false
set_option linter.unusedSimpArgs false

end Go.Proofs.Ytgpgdhopmifbpaa
