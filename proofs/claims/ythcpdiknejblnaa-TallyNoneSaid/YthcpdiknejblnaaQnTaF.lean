import Derived.Test.YthcpdiknejblnaaQnTaE
import Derived.Test.YthcpdiknejblnaaQnShH
set_option maxHeartbeats 400000
set_option linter.unusedVariables false
set_option linter.unusedSimpArgs false
namespace Go.Proofs.Ythcpdiknejblnaa.Ta
open Go Go.MapKept Go.RowKit Go.ChangeMaps Mp YthcpdiknejblnaaW.PrintWords YthcpdiknejblnaaW.PrintLast YthcpdiknejblnaaW.PrintMore Rf Aid Hp
variable {lo hi d bi bp:Nat} {w w':World} {I:List (Int × Int)} {P:List ((Int × Int) × Int)} {n:Int}
theorem merge_nil (v:Value) (w:World):Calls Try.prog 16 #[.pointer none,v] w fun e w'=>e=.returned (.tuple #[])/\w=w':=by
 go_enter Try.func16,Try.ntmps16
 go_wp2
 exact bodyPost_ret (v:=.tuple #[]) (by simp[results,Try.results16,go_sem]) rfl ⟨rfl,rfl⟩
end Go.Proofs.Ythcpdiknejblnaa.Ta
