import Derived.BigQuiet
import Derived.Test.YtkffhgiiejbnaaaGreatQHp
import Derived.Test.YtkffhgiiejbnaaaGreatQBndA
import Derived.Test.YtkffhgiiejbnaaaGreatQ01
import Derived.Test.YtkffhgiiejbnaaaGreatQ03
set_option maxHeartbeats 400000
set_option linter.unusedVariables false
set_option linter.unusedSimpArgs false
namespace Go.Proofs.YtkffhgiiejbnaaaGreat.Rf
open Go.RowKit YtkffhgiiejbnaaaGreatW.PrintWords YtkffhgiiejbnaaaGreatW.PrintLast YtkffhgiiejbnaaaGreatW.PrintMore Aid Mp Hp Bn
theorem cell_of {w:World} {p t i:Nat} {cs:Array Value} {v:Value} (h:w.heap[p]?=some (.cells cs t (0,0))) (hv:cs[i]?=some v):w.cell? ⟨p,i,none⟩=some v:=Z75
end Go.Proofs.YtkffhgiiejbnaaaGreat.Rf
