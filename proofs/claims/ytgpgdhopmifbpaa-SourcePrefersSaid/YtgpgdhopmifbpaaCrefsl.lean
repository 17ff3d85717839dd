/- Contracts of the reference's slope, of the law's rows and of alive in chapter 13. Conditions: the entries are integers of 64 bits. -/
import Derived.Test.YtgpgdhopmifbpaaCgather
namespace Go.Proofs.Ytgpgdhopmifbpaa
open Go.Eng
set_option linter.unusedVariables false
set_option linter.unusedSimpArgs false

end Go.Proofs.Ytgpgdhopmifbpaa
