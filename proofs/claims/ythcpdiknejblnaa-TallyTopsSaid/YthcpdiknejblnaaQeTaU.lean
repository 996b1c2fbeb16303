import Derived.Test.YthcpdiknejblnaaQeAid
import Derived.Test.YthcpdiknejblnaaQe01
import Derived.Test.YthcpdiknejblnaaQeHp
set_option linter.unusedVariables false
set_option linter.unusedSimpArgs false
namespace Go.Proofs.Ythcpdiknejblnaa.Ta
open Go Go.RowKit YthcpdiknejblnaaW.PrintWords Hp
theorem cell_of {w:World} {p t i:Nat} {cs:Array Value} {v:Value} (h:w.heap[p]?=some (.cells cs t (0,0))) (hv:cs[i]?=some v):w.cell? ⟨p,i,none⟩=some v:=by simp only[World.cell?,h];exact hv
theorem frozen_of {w:World} {p t:Nat} {cs:Array Value} (h:w.heap[p]?=some (.cells cs t (0,0))) (o:Nat):w.frozen? ⟨p,o,none⟩=false:=by simp[World.frozen?,h]
theorem lt_of {w:World} {g:Nat} {o:Obj} (h:w.heap[g]?=some o):g<w.heap.size:=(Array.getElem?_eq_some_iff.1 h).1
theorem set_far (w:World) {a:Addr} {k:Nat} (h:k≠a.block) (u:Value):(w.setCell a u).heap[k]?=w.heap[k]?:=by
 simp only[World.setCell,Array.getElem?_modify]
 rw[if_neg (Ne.symm h)]
theorem rd_at {w:World} {A:Option Addr} {n:Nat} {xs:List Int} (h:Kd.C (Kd.int .i64) w A n xs) {i:Nat} {a:Int} (hi:xs[i]?=some a):∃ ad,A=some ad/\w.cell? (ad.add i)=some (.int .i64 a):=by
 obtain⟨hl,hx⟩:=List.getElem?_eq_some_iff.1 hi
 obtain⟨ad,e,hc⟩:=Kd.at_int h (i:Int) (Z0) (by have:=h.1;omega)
 rw[Int.toNat_natCast,rdI hl,hx]at hc
 exact⟨ad,e,hc⟩
end Go.Proofs.Ythcpdiknejblnaa.Ta
