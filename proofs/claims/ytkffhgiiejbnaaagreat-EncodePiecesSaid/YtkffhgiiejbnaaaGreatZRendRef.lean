import Derived.Test.YtkffhgiiejbnaaaGreatZRender
import Derived.Test.YtkffhgiiejbnaaaGreatZMarkRef
import Derived.Test.YtkffhgiiejbnaaaGreatZ02
set_option linter.unusedVariables false
set_option linter.unusedSimpArgs false
namespace Go.Proofs.YtkffhgiiejbnaaaGreat.Mk
open Go.RowKit YtkffhgiiejbnaaaGreatW.PrintWords YtkffhgiiejbnaaaGreatW.PrintLast YtkffhgiiejbnaaaGreatW.PrintMore Rf Aid Mp
theorem size_noS : (spNo).f1.size ≤ 64 := by show 0 ≤ 64; omega
theorem hasP_size {S : List Sp} (hS : GoodS S) (n : Int) : (hasP S n).1.f1.size ≤ 64 := by
 unfold hasP
 split
 ·rename_i h
  have h1 : (-1 - n).toNat < S.length := by omega
  have : rd_T93 S (-1 - n) = S[(-1 - n).toNat] := by
   unfold rd_T93; rw [List.getD_eq_getElem?_getD, List.getElem?_eq_getElem h1]; rfl
  show (rd_T93 S (-1 - n)).f1.size ≤ 64
  rw [this]
  exact (hS.good _ (List.getElem_mem h1)).2.2.2
 ·exact size_noS
theorem render_any {p : Nat} {S : List Sp} {w : World} (h : SetAt w p S) (A : Option Addr) (c : Nat) (xs : List Int) (hr : Kd.C (Kd.int .i64) w A xs.length xs) (hl : xs.length ≤ 1000000000000) :
  Calls Tryz.prog 105 #[.pointer (some ⟨p, 0, none⟩), .slice A xs.length c] w fun e w' => e = .returned (rendV (rendF (hasP S) xs)) ∧ Below w.heap.size w w' :=
 render_of _ (hasP S) A c xs w (hasP_size h.goodS) (fun W n hb => has_any (h.below hb) n) hr hl
end Go.Proofs.YtkffhgiiejbnaaaGreat.Mk
