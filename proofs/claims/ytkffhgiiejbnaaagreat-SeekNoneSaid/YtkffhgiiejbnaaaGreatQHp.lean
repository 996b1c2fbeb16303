import Derived.Test.YtkffhgiiejbnaaaGreatQAid
import Derived.Test.YtkffhgiiejbnaaaGreatQ01
import Derived.Test.YtkffhgiiejbnaaaGreatQMap
set_option maxHeartbeats 400000
set_option linter.unusedVariables false
set_option linter.unusedSimpArgs false
namespace Go.Proofs.YtkffhgiiejbnaaaGreat.Hp
open Go.RowKit YtkffhgiiejbnaaaGreatW.PrintWords YtkffhgiiejbnaaaGreatW.PrintLast YtkffhgiiejbnaaaGreatW.PrintMore Rf Aid Mp
theorem frozen_of {w : World} {p t : Nat} {cs : Array Value} (h : w.heap[p]? = some (.cells cs t (0, 0))) (o : Nat) : w.frozen? ⟨p, o, none⟩ = false := by
 simp [World.frozen?, h]
theorem set_ne (w : World) (p i j : Nat) (u : Value) (h : i ≠ j) : (w.setCell ⟨p, j, none⟩ u).cell? ⟨p, i, none⟩ = w.cell? ⟨p, i, none⟩ := by
 simp only [World.cell?, World.setCell, Array.getElem?_modify, if_true]
 cases w.heap[p]? with
 | none => rfl
 | some o => cases o <;> simp [Array.getElem?_setIfInBounds, Ne.symm h]
theorem set_eq {w : World} {p j : Nat} {u v : Value} (h : w.cell? ⟨p, j, none⟩ = some v) : (w.setCell ⟨p, j, none⟩ u).cell? ⟨p, j, none⟩ = some u := World.cell?_setCell_same' w _ _ (by rw [h]; rfl)
theorem push3 {α : Type} (h : Array α) (a b c : α) : (((h.push a).push b).push c)[h.size]? = some a ∧ (((h.push a).push b).push c)[h.size + 1]? = some b ∧ (((h.push a).push b).push c)[h.size + 2]? = some c := by
 refine ⟨?_, ?_, ?_⟩
 ·rw [Array.getElem?_push, if_neg (by simp; omega), Array.getElem?_push, if_neg (by simp), Array.getElem?_push, if_pos rfl]
 ·rw [Array.getElem?_push, if_neg (by simp), Array.getElem?_push, if_pos (by simp)]
 ·rw [Array.getElem?_push, if_pos (by simp)]
theorem w64 {i : Int} (h0 : -9223372036854775808 ≤ i) (h : i ≤ 9223372036854775807) : wrap64 i = i := by unfold wrap64; omega
theorem rdI {l : List Int} {i : Nat} (h : i < l.length) : rd l (i : Int) = l[i] := by
 unfold rd; rw [Int.toNat_natCast, List.getD_eq_getElem?_getD, List.getElem?_eq_getElem h]; rfl
theorem alloc_cell (W : World) (cs : List Value) (e j : Nat) (u : Value) (h : cs[j]? = some u) : (W.alloc (.cells cs.toArray e)).cell? ⟨W.heap.size, j, none⟩ = some u := by
 have : (W.alloc (.cells cs.toArray e)).heap[W.heap.size]? = some (.cells cs.toArray e) := by
  show (W.heap.push _)[W.heap.size]? = _
  rw [Array.getElem?_push, if_pos rfl]
 simp only [World.cell?, this]
 simpa using h
theorem R_but {α : Type} {d : Kd α} {e : Nat} {w w' : World} {base b : Nat} {ok : Nat → Prop} {v : Value} {xs : List α} (h : d.R e w base ok v xs) (hb : But b w w') {es : Array MapEntry} {cl : Nat} (hm : w.heap[b]? = some (.map es cl)) : d.R e w' base ok v xs :=
 Kd.R_mono (Kd.R_move (Kd.R_bound h) (fun k hk => hb.block k (by
  obtain ⟨_, _, _, q, hq, cells, hc⟩ := hk
  rintro rfl
  rw [hm] at hc
  cases hc))) (fun k hk => hk.1)
end Go.Proofs.YtkffhgiiejbnaaaGreat.Hp
