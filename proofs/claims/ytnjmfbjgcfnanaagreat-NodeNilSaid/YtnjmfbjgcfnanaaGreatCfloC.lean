/- The law FloodCounts. Conditions: none. -/
import Derived.Test.YtnjmfbjgcfnanaaGreatCfloP
namespace Go.Proofs.YtnjmfbjgcfnanaaGreat
open Go.Eng Go
set_option linter.unusedVariables false
set_option linter.unusedSimpArgs false

theorem brS {x y : Int} {A B : Prop} (h : x = y) (k : B) : brB (x != y) A B := by subst h; exact brF (by simp) k
end Go.Proofs.YtnjmfbjgcfnanaaGreat
