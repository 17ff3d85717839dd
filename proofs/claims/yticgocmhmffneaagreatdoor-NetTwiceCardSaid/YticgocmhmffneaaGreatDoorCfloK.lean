import Derived.Test.YticgocmhmffneaaGreatDoorMcA
namespace Go.Proofs.YticgocmhmffneaaGreatDoor
open Go.Eng Go
set_option linter.unusedSimpArgs false
set_option linter.unusedVariables false
set_option maxRecDepth 100000
set_option maxHeartbeats 8000000
theorem FW.Als{O S:NP}{w w':World}{bf be:Nat}{f:Fl}{e:El}{l:Um}{es:List E3}(h:FW w O bf be f e l es)(u:Am S w w')(hS: ¬S bf):w'.cell? ⟨bf,0,none⟩=some ((w.cell? ⟨bf,0,none⟩).getD undef):=by
  obtain⟨r,s,h1,_⟩:=h.ex
  exact h1.hold u hS 0 (by simp[flC])
end Go.Proofs.YticgocmhmffneaaGreatDoor
