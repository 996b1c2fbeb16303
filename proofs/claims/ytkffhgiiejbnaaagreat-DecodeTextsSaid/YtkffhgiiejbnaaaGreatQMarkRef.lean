import Derived.Test.YtkffhgiiejbnaaaGreatQSetF
import Derived.Test.YtkffhgiiejbnaaaGreatQ01
namespace Go.Proofs.YtkffhgiiejbnaaaGreat.Mk
open Go.RowKit Go.Proofs.YtkffhgiiejbnaaaGreatW.PrintWords Go.Proofs.YtkffhgiiejbnaaaGreatW.PrintLast Go.Proofs.YtkffhgiiejbnaaaGreatW.PrintMore Go.Proofs.YtkffhgiiejbnaaaGreat.Rf Go.Proofs.YtkffhgiiejbnaaaGreat.Aid Go.Proofs.YtkffhgiiejbnaaaGreat.Mp
set_option linter.unusedVariables false
set_option linter.unusedSimpArgs false
theorem w64 {i : Int} (h0 : -9223372036854775808 ≤ i) (h : i ≤ 9223372036854775807) : wrap64 i = i := by unfold wrap64; omega
theorem rd_at {l : List Sp} {i : Nat} (h : i < l.length) : rd_T93 l (i : Int) = l[i] := by
  unfold rd_T93; rw [Int.toNat_natCast, List.getD_eq_getElem?_getD, List.getElem?_eq_getElem h]; rfl
def greatP (l : List Sp) : Bool := l.any (fun x => decide (100 < x.f1.size)) || decide (40 < l.length)
theorem great_run (l : List Sp) (hl : l.length ≤ 9223372036854775807) : ∀ (d k i : Nat), i ≤ l.length → l.length - i = d → d < k → ligatureref09_Great.l0 k l i = some ((l.drop i).any (fun x => decide (100 < x.f1.size)) || decide (40 < l.length))
  | 0, k, i, h0, h1, h2 => by
    obtain ⟨k, rfl⟩ : ∃ m, k = m + 1 := ⟨k - 1, by omega⟩
    simp only [ligatureref09_Great.l0]
    rw [if_neg (by omega), List.drop_eq_nil_of_le (by omega)]
    simp only [List.any_nil, Bool.false_or]
    congr 1; rw [decide_eq_decide]; omega
  | d + 1, k, i, h0, h1, h2 => by
    obtain ⟨k, rfl⟩ : ∃ m, k = m + 1 := ⟨k - 1, by omega⟩
    have hlt : i < l.length := by omega
    simp only [ligatureref09_Great.l0]
    rw [if_pos (by omega), if_pos (by omega), rd_at hlt, List.drop_eq_getElem_cons hlt, List.any_cons]
    by_cases hx : 100 < (l[i]).f1.size
    · rw [if_pos (by omega)]; simp [hx]
    · rw [if_neg (by omega), w64 (by omega) (by omega), show ((i : Int) + 1) = ((i + 1 : Nat) : Int) from by omega, great_run l hl d k (i + 1) (by omega) (by omega) (by omega)]
      simp [hx]
theorem great_some (l : List Sp) (hl : l.length ≤ 9223372036854775807) : ligatureref09_Great.f (l.length + 1) l = some (greatP l) := by
  unfold ligatureref09_Great.f
  exact (great_run l hl l.length (l.length + 1) 0 (by omega) (by omega) (by omega)).trans (by rw [List.drop_zero]; rfl)
theorem rdI {l : List Int} {i : Nat} (h : i < l.length) : rd l (i : Int) = l[i] := by
  unfold rd; rw [Int.toNat_natCast, List.getD_eq_getElem?_getD, List.getElem?_eq_getElem h]; rfl
structure GoodS (S : List Sp) : Prop where
  good : ∀ x ∈ S, 0 ≤ x.f0 ∧ x.f0 ≤ 1073741824 ∧ 1 ≤ x.f1.size ∧ x.f1.size ≤ 64
  few : S.length ≤ 32
  apartI : (S.map (·.f0)).Nodup
  apartT : (S.map (·.f1)).Nodup
theorem SetAt.goodS {w : World} {p : Nat} {S : List Sp} (h : SetAt w p S) : GoodS S := ⟨h.good, h.few, h.apartI, h.apartT⟩
end Go.Proofs.YtkffhgiiejbnaaaGreat.Mk
