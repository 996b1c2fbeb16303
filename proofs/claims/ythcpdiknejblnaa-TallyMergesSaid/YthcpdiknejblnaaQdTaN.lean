import Derived.BigQuiet
import Derived.Test.YthcpdiknejblnaaQdTaL
set_option maxHeartbeats 400000
set_option linter.unusedVariables false
set_option linter.unusedSimpArgs false
namespace Go.Proofs.Ythcpdiknejblnaa.Ta
open Go Go.Shelf Go.MapKept Go.RowKit Go.ChangeMaps Mp YthcpdiknejblnaaW.PrintWords YthcpdiknejblnaaW.PrintLast YthcpdiknejblnaaW.PrintMore Rf Aid Hp
theorem elem_ints:Try.prog.elem 22=37:=Z6
theorem under_intss:Try.prog.underlying 22=some (.slice (Try.prog.elem 22)):=by rw[elem_ints];kernel_rfl
theorem infoS:(Try.prog.info? 37).map (fun i=>(i.zero,i.size,i.bytes))=some (some (.slice none 0 0),1,24):=Z6
theorem cnt_tot (l:List (List Int)) (a:Int):cntL l a≤totL l:=by
 have h:=(fine_ofI l).get a
 rw[getN_ofI]at h
 omega
end Go.Proofs.Ythcpdiknejblnaa.Ta
