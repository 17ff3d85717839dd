import Derived.Test.YtnjmfbjgcfnanaaGreatCfloP
namespace Go.Proofs.YtnjmfbjgcfnanaaGreat
open Go.Eng Go
set_option linter.unusedSimpArgs false
set_option linter.unusedVariables false
set_option maxRecDepth 100000
set_option maxHeartbeats 8000000
end Go.Proofs.YtnjmfbjgcfnanaaGreat
