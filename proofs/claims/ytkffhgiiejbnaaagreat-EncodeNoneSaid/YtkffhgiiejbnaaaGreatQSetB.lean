import Derived.ShutString
import Derived.Test.YtkffhgiiejbnaaaGreatQSetA
set_option linter.unusedVariables false
set_option linter.unusedSimpArgs false
namespace Go.Proofs.YtkffhgiiejbnaaaGreat.Mk
open Go.RowKit Go.Proofs.YtkffhgiiejbnaaaGreatW.PrintWords Go.Proofs.YtkffhgiiejbnaaaGreatW.PrintLast Go.Proofs.YtkffhgiiejbnaaaGreatW.PrintMore Go.Proofs.YtkffhgiiejbnaaaGreat.Rf Go.Proofs.YtkffhgiiejbnaaaGreat.Aid Go.Proofs.YtkffhgiiejbnaaaGreat.Mp
set_option linter.unusedVariables false
set_option linter.unusedSimpArgs false
set_option maxHeartbeats 400000
def spV (x : Sp) : Value := .agg #[.int .i64 x.f0, .string x.f1]
def spNo : Sp := ⟨0, ⟨#[]⟩⟩
theorem has_no_pos (v : Value) (m : Int) (w : World) (hm : 0 ≤ m) : Calls Tryz.prog 97 #[v, .int .i64 m] w fun e w' => e = .returned (.tuple #[spV spNo, .bool false]) ∧ Below w.heap.size w w' := by
  go_enter Tryz.func97, Tryz.ntmps97
  go_wp2
  refine bodyPost_ret (v := .tuple #[spV spNo, .bool false]) ?_ rfl ⟨rfl, ?_⟩
  · simp [results, Tryz.results97, go_sem, spV, spNo]
  · exact (Below.refl _ _).alloc (Nat.le_refl _) _
theorem has_no_neg (p n c : Nat) (A : Option Addr) (m : Int) (w : World) (hl : w.cell? ⟨p, 0, none⟩ = some (.slice A n c)) (hm0 : m < 0) (hm : m < -(n : Int)) (hn : n ≤ 32) :
    Calls Tryz.prog 97 #[.pointer (some ⟨p, 0, none⟩), .int .i64 m] w fun e w' => e = .returned (.tuple #[spV spNo, .bool false]) ∧ Below w.heap.size w w' := by
  have hp : p < w.heap.size := World.block_lt_of_cell? w _ hl
  go_enter Tryz.func97, Tryz.ntmps97
  go_wp2_with (go_at_call 80; refine (len_any p n c A _ ((World.cell?_alloc_lt _ _ _ hp).trans hl)).mono ?_; rintro e w' ⟨rfl, rfl⟩)
  refine bodyPost_ret (v := .tuple #[spV spNo, .bool false]) ?_ rfl ⟨rfl, ?_⟩
  · simp [results, Tryz.results97, go_sem, spV, spNo]
  · exact (Below.refl _ _).alloc (Nat.le_refl _) _
theorem has_yes (p c : Nat) (A : Option Addr) (S : List Sp) (m : Int) (w : World) (hl : w.cell? ⟨p, 0, none⟩ = some (.slice A S.length c)) (hr : Kd.C kSp w A S.length S) (hm0 : m < 0) (hm : -(S.length : Int) ≤ m) (hn : S.length ≤ 32) :
    Calls Tryz.prog 97 #[.pointer (some ⟨p, 0, none⟩), .int .i64 m] w fun e w' => e = .returned (.tuple #[spV (rd_T93 S (-1 - m)), .bool true]) ∧ Below w.heap.size w w' := by
  obtain ⟨ad, rfl, x0, x1⟩ := at_T93 hr (-1 - m) (by omega) (by omega)
  have i0 : 0 ≤ -1 - m := by omega
  have i1 : -1 - m < (S.length : Int) := by omega
  have hp : p < w.heap.size := World.block_lt_of_cell? w _ hl
  have hp2 : (ad.add ((-1 - m).toNat * 2)).block < w.heap.size := World.block_lt_of_cell? w _ x0
  clear hr
  generalize rd_T93 S (-1 - m) = x at *
  go_enter Tryz.func97, Tryz.ntmps97
  go_wp2_with (go_at_call 80; refine (len_any p S.length c (some ad) _ ((World.cell?_alloc_lt _ _ _ hp).trans hl)).mono ?_; rintro e w' ⟨rfl, rfl⟩)
  refine bodyPost_ret (v := .tuple #[spV x, .bool true]) ?_ rfl ⟨rfl, ?_⟩
  · simp [results, Tryz.results97, go_sem, spV]
  · exact (Below.refl _ _).alloc (Nat.le_refl _) _
def hasP (S : List Sp) (m : Int) : Sp × Bool := if m < 0 ∧ -(S.length : Int) ≤ m then (rd_T93 S (-1 - m), true) else (spNo, false)
theorem has_any {p : Nat} {S : List Sp} {w : World} (h : SetAt w p S) (m : Int) :
    Calls Tryz.prog 97 #[.pointer (some ⟨p, 0, none⟩), .int .i64 m] w fun e w' => e = .returned (.tuple #[spV (hasP S m).1, .bool (hasP S m).2]) ∧ Below w.heap.size w w' := by
  obtain ⟨A, c, r1, r2, r3⟩ := h.rows
  unfold hasP
  by_cases h0 : m < 0
  · by_cases h1 : -(S.length : Int) ≤ m
    · rw [if_pos ⟨h0, h1⟩]; exact has_yes p c A S m w r1 r3 h0 h1 h.few
    · rw [if_neg (by omega)]; exact has_no_neg p S.length c A m w r1 h0 (by omega) h.few
  · rw [if_neg (by omega)]; exact has_no_pos _ m w (by omega)
theorem id_of (v : Value) (m : Int) (x : Sp) (b : Bool) (w : World) (h : Calls Tryz.prog 97 #[v, .int .i64 m] w fun e w' => e = .returned (.tuple #[spV x, .bool b]) ∧ Below w.heap.size w w') :
    Calls Tryz.prog 129 #[v, .int .i64 m] w fun e w' => e = .returned (.tuple #[.int .i64 x.f0, .bool b]) ∧ Below w.heap.size w w' := by
  have H := As.mk h
  clear h
  unfold spV at H
  go_enter Tryz.func129, Tryz.ntmps129
  go_wp2_with (go_at_call 97; refine H.out.mono ?_; rintro e w1 ⟨rfl, hb1⟩)
  go_ret2
  exact ⟨rfl, below_alloc hb1 _⟩
theorem id_any {p : Nat} {S : List Sp} {w : World} (h : SetAt w p S) (m : Int) :
    Calls Tryz.prog 129 #[.pointer (some ⟨p, 0, none⟩), .int .i64 m] w fun e w' => e = .returned (.tuple #[.int .i64 (hasP S m).1.f0, .bool (hasP S m).2]) ∧ Below w.heap.size w w' := id_of _ m _ _ w (has_any h m)
def parseF (S : List Sp) (s : ByteArray) : Nat → Nat → List Int
  | 0, _ => []
  | f + 1, i => if i < s.size then (match atP S (s.extract i s.size) with
    | none => bt s i :: parseF S s f (i + 1)
    | some j => (-1 - (j : Int)) :: parseF S s f (i + (rd_T93 S j).f1.size)) else []
def parseP (S : List Sp) (s : ByteArray) : List Int := parseF S s s.size 0
theorem parseF_nil {S : List Sp} {s : ByteArray} {f i : Nat} (h : ¬ i < s.size) : parseF S s f i = [] := by
  cases f with
  | zero => rfl
  | succ f => simp [parseF, h]
theorem parseF_byte {S : List Sp} {s : ByteArray} {f i : Nat} (h : i < s.size) (ha : atP S (s.extract i s.size) = none) : parseF S s (f + 1) i = bt s i :: parseF S s f (i + 1) := by
  rw [parseF, if_pos h, ha]
theorem parseF_mark {S : List Sp} {s : ByteArray} {f i j : Nat} (h : i < s.size) (ha : atP S (s.extract i s.size) = some j) : parseF S s (f + 1) i = (-1 - (j : Int)) :: parseF S s f (i + (rd_T93 S j).f1.size) := by
  rw [parseF, if_pos h, ha]
theorem parseF_length (S : List Sp) (s : ByteArray) : ∀ f i, (parseF S s f i).length ≤ f
  | 0, _ => by simp [parseF]
  | f + 1, i => by
    unfold parseF
    split
    · split
      · have := parseF_length S s f (i + 1); simp; omega
      · rename_i j _; have := parseF_length S s f (i + (rd_T93 S j).f1.size); simp; omega
    · simp
end Go.Proofs.YtkffhgiiejbnaaaGreat.Mk
