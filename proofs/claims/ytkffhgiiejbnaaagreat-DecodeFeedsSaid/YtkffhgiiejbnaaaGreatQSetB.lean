import Derived.ShutString
import Derived.Test.YtkffhgiiejbnaaaGreatQSetA
set_option linter.unusedVariables false
set_option linter.unusedSimpArgs false
namespace Go.Proofs.YtkffhgiiejbnaaaGreat.Mk
open Go.RowKit Go.Proofs.YtkffhgiiejbnaaaGreatW.PrintWords Go.Proofs.YtkffhgiiejbnaaaGreatW.PrintLast Go.Proofs.YtkffhgiiejbnaaaGreatW.PrintMore Go.Proofs.YtkffhgiiejbnaaaGreat.Rf Go.Proofs.YtkffhgiiejbnaaaGreat.Aid Go.Proofs.YtkffhgiiejbnaaaGreat.Mp
set_option linter.unusedVariables false
set_option linter.unusedSimpArgs false
set_option maxHeartbeats 400000
def spV (x : Sp) : Value := .agg #[.int .i64 x.f0, .string x.f1]
def spNo : Sp := ⟨0, ⟨#[]⟩⟩
theorem has_no_pos (v : Value) (m : Int) (w : World) (hm : 0 ≤ m) : Calls Tryz.prog 97 #[v, .int .i64 m] w fun e w' => e = .returned (.tuple #[spV spNo, .bool false]) ∧ Below w.heap.size w w' := by
  go_enter Tryz.func97, Tryz.ntmps97
  go_wp2
  refine bodyPost_ret (v := .tuple #[spV spNo, .bool false]) ?_ rfl ⟨rfl, ?_⟩
  · simp [results, Tryz.results97, go_sem, spV, spNo]
  · exact (Below.refl _ _).alloc (Nat.le_refl _) _
theorem has_no_neg (p n c : Nat) (A : Option Addr) (m : Int) (w : World) (hl : w.cell? ⟨p, 0, none⟩ = some (.slice A n c)) (hm0 : m < 0) (hm : m < -(n : Int)) (hn : n ≤ 32) :
    Calls Tryz.prog 97 #[.pointer (some ⟨p, 0, none⟩), .int .i64 m] w fun e w' => e = .returned (.tuple #[spV spNo, .bool false]) ∧ Below w.heap.size w w' := by
  have hp : p < w.heap.size := World.block_lt_of_cell? w _ hl
  go_enter Tryz.func97, Tryz.ntmps97
  go_wp2_with (go_at_call 80; refine (len_any p n c A _ ((World.cell?_alloc_lt _ _ _ hp).trans hl)).mono ?_; rintro e w' ⟨rfl, rfl⟩)
  refine bodyPost_ret (v := .tuple #[spV spNo, .bool false]) ?_ rfl ⟨rfl, ?_⟩
  · simp [results, Tryz.results97, go_sem, spV, spNo]
  · exact (Below.refl _ _).alloc (Nat.le_refl _) _
theorem has_yes (p c : Nat) (A : Option Addr) (S : List Sp) (m : Int) (w : World) (hl : w.cell? ⟨p, 0, none⟩ = some (.slice A S.length c)) (hr : Kd.C kSp w A S.length S) (hm0 : m < 0) (hm : -(S.length : Int) ≤ m) (hn : S.length ≤ 32) :
    Calls Tryz.prog 97 #[.pointer (some ⟨p, 0, none⟩), .int .i64 m] w fun e w' => e = .returned (.tuple #[spV (rd_T93 S (-1 - m)), .bool true]) ∧ Below w.heap.size w w' := by
  obtain ⟨ad, rfl, x0, x1⟩ := at_T93 hr (-1 - m) (by omega) (by omega)
  have i0 : 0 ≤ -1 - m := by omega
  have i1 : -1 - m < (S.length : Int) := by omega
  have hp : p < w.heap.size := World.block_lt_of_cell? w _ hl
  have hp2 : (ad.add ((-1 - m).toNat * 2)).block < w.heap.size := World.block_lt_of_cell? w _ x0
  clear hr
  generalize rd_T93 S (-1 - m) = x at *
  go_enter Tryz.func97, Tryz.ntmps97
  go_wp2_with (go_at_call 80; refine (len_any p S.length c (some ad) _ ((World.cell?_alloc_lt _ _ _ hp).trans hl)).mono ?_; rintro e w' ⟨rfl, rfl⟩)
  refine bodyPost_ret (v := .tuple #[spV x, .bool true]) ?_ rfl ⟨rfl, ?_⟩
  · simp [results, Tryz.results97, go_sem, spV]
  · exact (Below.refl _ _).alloc (Nat.le_refl _) _
def hasP (S : List Sp) (m : Int) : Sp × Bool := if m < 0 ∧ -(S.length : Int) ≤ m then (rd_T93 S (-1 - m), true) else (spNo, false)
theorem has_any {p : Nat} {S : List Sp} {w : World} (h : SetAt w p S) (m : Int) :
    Calls Tryz.prog 97 #[.pointer (some ⟨p, 0, none⟩), .int .i64 m] w fun e w' => e = .returned (.tuple #[spV (hasP S m).1, .bool (hasP S m).2]) ∧ Below w.heap.size w w' := by
  obtain ⟨A, c, r1, r2, r3⟩ := h.rows
  unfold hasP
  by_cases h0 : m < 0
  · by_cases h1 : -(S.length : Int) ≤ m
    · rw [if_pos ⟨h0, h1⟩]; exact has_yes p c A S m w r1 r3 h0 h1 h.few
    · rw [if_neg (by omega)]; exact has_no_neg p S.length c A m w r1 h0 (by omega) h.few
  · rw [if_neg (by omega)]; exact has_no_pos _ m w (by omega)
theorem mark_of (p b : Nat) (S : List Sp) (i : Int) (w : World) (hi : w.cell? ⟨p, 1, none⟩ = some (.map (some b))) (hI : MapIs encInt w b (idl S)) (hl : S.length ≤ 32) :
    Calls Tryz.prog 98 #[.pointer (some ⟨p, 0, none⟩), .int .i64 i] w fun e w' => e = .returned (markT (idxI S i)) ∧ w = w' := by
  have hL : (Instr.lookup 188 (.map (some b)) (.int .i64 i) true).run Tryz.prog w = .ok (.tuple #[(get? (idl S) i).getD (.int .i64 0), .bool (get? (idl S) i).isSome]) w :=
    lookup_ok (E := encInt) Tryz.underlying188 Tryz.underlying3 hI i (by kernel_rfl)
  rw [get_idl] at hL
  clear hI
  cases hx : idxI S i with
  | none =>
    rw [hx] at hL
    clear hx
    simp only [Option.map_none, Option.getD_none, Option.isSome_none] at hL
    go_enter Tryz.func98, Tryz.ntmps98
    go_wp2
    go_ret2
    exact ⟨rfl, rfl⟩
  | some j =>
    have hjl : j < 32 := Nat.lt_of_lt_of_le (idxI_lt hx) hl
    rw [hx] at hL
    clear hx
    simp only [Option.map_some, Option.getD_some, Option.isSome_some] at hL
    go_enter Tryz.func98, Tryz.ntmps98
    go_wp2_with (go_at_call 133; refine (item_any _ _).mono ?_; rintro e w' ⟨rfl, rfl⟩)
    go_ret2
    exact ⟨by rw [show wrap64 (-1 - (j : Int)) = -1 - (j : Int) from by unfold wrap64; omega]; rfl, rfl⟩
theorem mark_any {p : Nat} {S : List Sp} {w : World} (h : SetAt w p S) (i : Int) :
    Calls Tryz.prog 98 #[.pointer (some ⟨p, 0, none⟩), .int .i64 i] w fun e w' => e = .returned (markT (idxI S i)) ∧ w = w' := by
  obtain ⟨b, i1, i2⟩ := h.ids
  exact mark_of p b S i w i1 i2 h.few
end Go.Proofs.YtkffhgiiejbnaaaGreat.Mk
