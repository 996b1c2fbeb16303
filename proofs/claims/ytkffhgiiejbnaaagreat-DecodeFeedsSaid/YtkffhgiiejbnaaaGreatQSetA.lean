import Derived.Test.YtkffhgiiejbnaaaGreatQ01
import Derived.Test.YtkffhgiiejbnaaaGreatQAid
import Derived.Test.YtkffhgiiejbnaaaGreatQMap
set_option linter.unusedVariables false
set_option linter.unusedSimpArgs false
namespace Go.Proofs.YtkffhgiiejbnaaaGreat.Mk
open Go.RowKit Go.Proofs.YtkffhgiiejbnaaaGreatW.PrintWords Go.Proofs.YtkffhgiiejbnaaaGreatW.PrintLast Go.Proofs.YtkffhgiiejbnaaaGreatW.PrintMore Go.Proofs.YtkffhgiiejbnaaaGreat.Rf Go.Proofs.YtkffhgiiejbnaaaGreat.Aid Go.Proofs.YtkffhgiiejbnaaaGreat.Mp
attribute [local go_sem] Aid.max_two Aid.min_two min2_mn max2_mx
set_option linter.unusedVariables false
set_option linter.unusedSimpArgs false
set_option maxHeartbeats 400000
abbrev Sp := S93
abbrev kSp := k93
def idx (S : List Sp) (s : ByteArray) : Option Nat := S.findIdx? (fun x => decide (x.f1 = s))
def idxI (S : List Sp) (i : Int) : Option Nat := S.findIdx? (fun x => decide (x.f0 = i))
def mostOf (S : List Sp) : Nat := S.foldl (fun m x => max m x.f1.size) 0
def firstOf (S : List Sp) (b : Nat) : Bool := S.any (fun x => decide (bt x.f1 0 = (b : Int)))
def txl (S : List Sp) : List (ByteArray × Value) := S.zipIdx.map (fun p => (p.1.f1, .int .i64 (p.2 : Int)))
def idl (S : List Sp) : List (Int × Value) := S.zipIdx.map (fun p => (p.1.f0, .int .i64 (p.2 : Int)))
theorem get_zip {κ : Type} [DecidableEq κ] (f : Sp → κ) (k : κ) : ∀ (S : List Sp) (n : Nat), get? ((S.zipIdx n).map (fun p => (f p.1, Value.int .i64 (p.2 : Int)))) k = (S.findIdx? (fun x => decide (f x = k))).map (fun i => .int .i64 ((n + i : Nat) : Int))
  | [], n => rfl
  | x :: S, n => by
    rw [List.zipIdx_cons, List.map_cons, get?_cons, List.findIdx?_cons]
    by_cases h : f x = k
    · simp [h]
    · simp only [h, if_false, decide_false, Bool.false_eq_true]
      rw [get_zip f k S (n + 1), Option.map_map]
      congr 1; funext i; simp only [Function.comp]; congr 2; omega
theorem get_txl (S : List Sp) (s : ByteArray) : get? (txl S) s = (idx S s).map (fun i => .int .i64 (i : Int)) := by
  have := get_zip (fun x => x.f1) s S 0
  simpa [txl, idx] using this
theorem get_idl (S : List Sp) (i : Int) : get? (idl S) i = (idxI S i).map (fun i => .int .i64 (i : Int)) := by
  have := get_zip (fun x => x.f0) i S 0
  simpa [idl, idxI] using this
structure SetAt (w : World) (p : Nat) (S : List Sp) : Prop where
  good : ∀ x ∈ S, 0 ≤ x.f0 ∧ x.f0 ≤ 1073741824 ∧ 1 ≤ x.f1.size ∧ x.f1.size ≤ 64
  few : S.length ≤ 32
  apartI : (S.map (·.f0)).Nodup
  apartT : (S.map (·.f1)).Nodup
  rows : ∃ A c, w.cell? ⟨p, 0, none⟩ = some (.slice A S.length c) ∧ S.length ≤ c ∧ Kd.C kSp w A S.length S
  ids : ∃ b, w.cell? ⟨p, 1, none⟩ = some (.map (some b)) ∧ MapIs encInt w b (idl S)
  texts : ∃ b, w.cell? ⟨p, 2, none⟩ = some (.map (some b)) ∧ MapIs encStr w b (txl S)
  first : ∀ i, i < 256 → w.cell? ⟨p, 3 + i, none⟩ = some (.bool (firstOf S i))
  most : w.cell? ⟨p, 259, none⟩ = some (.int .i64 (mostOf S))
theorem SetAt.below {w w' : World} {p : Nat} {S : List Sp} (h : SetAt w p S) (hb : Below w.heap.size w w') : SetAt w' p S := by
  obtain ⟨h1, h2, h3, h4, ⟨A, c, r1, r2, r3⟩, ⟨b, i1, i2⟩, ⟨b', t1, t2⟩, f, m⟩ := h
  exact ⟨h1, h2, h3, h4, ⟨A, c, pw_cell_below hb r1, r2, Kd.C_below r3 hb⟩, ⟨b, pw_cell_below hb i1, i2.of_block (hb.block _ i2.lt)⟩, ⟨b', pw_cell_below hb t1, t2.of_block (hb.block _ t2.lt)⟩, fun i hi => pw_cell_below hb (f i hi), pw_cell_below hb m⟩
theorem idxI_lt {S : List Sp} {i : Int} {j : Nat} (h : idxI S i = some j) : j < S.length := by
  unfold idxI at h
  exact (List.findIdx?_eq_some_iff_getElem.1 h).1
theorem item_any (i : Int) (w : World) : Calls Tryz.prog 133 #[.int .i64 i] w fun e w' => e = .returned (.int .i64 (wrap64 (-1 - i))) ∧ w = w' := by
  go_enter Tryz.func133, Tryz.ntmps133
  go_wp2
  go_ret
  exact ⟨rfl, rfl⟩
theorem len_any (p n c : Nat) (A : Option Addr) (w : World) (hl : w.cell? ⟨p, 0, none⟩ = some (.slice A n c)) : Calls Tryz.prog 80 #[.pointer (some ⟨p, 0, none⟩)] w fun e w' => e = .returned (.int .i64 n) ∧ w = w' := by
  go_enter Tryz.func80, Tryz.ntmps80
  go_wp2
  go_ret
  exact ⟨rfl, rfl⟩
def markV (o : Option Nat) : Value := .int .i64 (match o with | some i => -1 - (i : Int) | none => 0)
def markT (o : Option Nat) : Value := .tuple #[markV o, .bool o.isSome]
end Go.Proofs.YtkffhgiiejbnaaaGreat.Mk
