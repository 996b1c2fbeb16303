import Derived.Test.YthcpdiknejblnaaQeAid
import Derived.Test.YthcpdiknejblnaaQe01
import Derived.Test.YthcpdiknejblnaaQeMap
set_option maxHeartbeats 400000
set_option linter.unusedVariables false
set_option linter.unusedSimpArgs false
namespace Go.Proofs.Ythcpdiknejblnaa.Hp
open Go.RowKit YthcpdiknejblnaaW.PrintWords YthcpdiknejblnaaW.PrintLast YthcpdiknejblnaaW.PrintMore Rf Aid Mp
theorem frozen_of {w:World} {p t:Nat} {cs:Array Value} (h:w.heap[p]?=some (.cells cs t (0,0))) (o:Nat):w.frozen? ⟨p,o,none⟩=false:=by
 simp[World.frozen?,h]
theorem w64 {i:Int} (h0:-9223372036854775808≤i) (h:i≤9223372036854775807):wrap64 i=i:=by unfold wrap64;omega
theorem rdI {l:List Int} {i:Nat} (h:i<l.length):rd l (i:Int)=l[i]:=by
 unfold rd;rw[Int.toNat_natCast,List.getD_eq_getElem?_getD,List.getElem?_eq_getElem h];rfl
end Go.Proofs.Ythcpdiknejblnaa.Hp
