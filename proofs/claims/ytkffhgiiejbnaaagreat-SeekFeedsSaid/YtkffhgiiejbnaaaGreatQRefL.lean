import Derived.Test.YtkffhgiiejbnaaaGreatQRefK
import Derived.Test.YtkffhgiiejbnaaaGreatQRefI
set_option maxHeartbeats 400000
set_option linter.unusedVariables false
set_option linter.unusedSimpArgs false
namespace Go.Proofs.YtkffhgiiejbnaaaGreat.Rt
open Go.RowKit YtkffhgiiejbnaaaGreatW.PrintWords YtkffhgiiejbnaaaGreatW.PrintLast YtkffhgiiejbnaaaGreatW.PrintMore Rf Aid Mp Hp Tk Vc Ch En Bn
theorem itL_app (s:Vc.Sp) (l m:List Int):itL s (l++m)=itL s l++itL s m:=by unfold itL;rw[List.map_append,List.flatten_append]
end Go.Proofs.YtkffhgiiejbnaaaGreat.Rt
