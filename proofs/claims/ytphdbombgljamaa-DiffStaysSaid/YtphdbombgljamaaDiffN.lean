/- A walk's next step, and whether it has ended; the table as it is read: no condition but that it is one. -/
import Derived.Test.YtphdbombgljamaaDiffRef
import Derived.Test.YtphdbombgljamaaRfx1
namespace Go.Proofs.Ytphdbombgljamaa.Df
open Go.RowKit Go.Proofs.YtphdbombgljamaaW.PrintWords Go.Proofs.YtphdbombgljamaaW.PrintLast Go.Proofs.YtphdbombgljamaaW.PrintMore Go.Proofs.Ytphdbombgljamaa.Rf Go.Proofs.Ytphdbombgljamaa.Aid
set_option linter.unusedVariables false
set_option linter.unusedSimpArgs false

abbrev TabC (W : World) (g : Nat) (a b : List Int) : Prop := Kd.C (Kd.slice 3 (Kd.int .i64)) W (some ⟨g, 0, none⟩) (a.length + 1) (tabL a b)
theorem add0 (g j : Nat) : (⟨g, 0, none⟩ : Addr).add j = ⟨g, j, none⟩ := by
  unfold Addr.add
  split
  · subst_vars; rfl
  · simp
theorem tab_C {W : World} {g r0 : Nat} {a b : List Int} (ha : a.length ≤ 500) (hb : b.length ≤ 500) (h : Tab W g r0 a.length b.length (a.length + 1) (fun i k => (L a b i k : Int))) : TabC W g a b := by
  refine ⟨by rw [tabL_is, tabF_len], by omega, fun _ => ⟨_, rfl, fun j p hj => ?_⟩⟩
  unfold tabL at hj
  rw [List.getElem?_map] at hj
  by_cases hjl : j < a.length + 1
  · rw [List.getElem?_range hjl] at hj
    simp only [Option.map_some, Option.some.injEq] at hj
    subst hj
    refine ⟨[.slice (some ⟨r0 + j, 0, none⟩) (b.length + 1) (b.length + 1)], rfl, ⟨some ⟨r0 + j, 0, none⟩, b.length + 1, by simp, by simp, ?_⟩, fun i u hu => ?_⟩
    · refine ⟨rfl, by simp; omega, fun _ => ⟨_, rfl, fun k p hk => ?_⟩⟩
      rw [List.getElem?_map] at hk
      by_cases hkl : k < b.length + 1
      · rw [List.getElem?_range hkl] at hk
        simp only [Option.map_some, Option.some.injEq] at hk
        subst hk
        refine ⟨[.int .i64 (L a b j k)], rfl, rfl, fun i u hu => ?_⟩
        match i, hu with
        | 0, hu =>
          simp only [List.getElem?_cons_zero, Option.some.injEq] at hu
          subst hu
          rw [add0]
          show W.cell? ⟨r0 + j, k * 1 + 0, none⟩ = _
          rw [Nat.mul_one]
          exact h.val j k hjl (by omega)
        | i + 1, hu => simp at hu
      · rw [List.getElem?_eq_none (by simp; omega)] at hk; cases hk
    · match i, hu with
      | 0, hu =>
        simp only [List.getElem?_cons_zero, Option.some.injEq] at hu
        subst hu
        rw [add0]
        show W.cell? ⟨g, j * 1 + 0, none⟩ = _
        rw [Nat.mul_one]
        exact h.row j hjl
      | i + 1, hu => simp at hu
  · rw [List.getElem?_eq_none (by simp; omega)] at hj; cases hj

theorem next_some (a b : List Int) (ha : a.length ≤ 500) (hb : b.length ≤ 500) {i j : Nat} (hi : i ≤ a.length) (hj : j ≤ b.length) (he : ¬ (i = a.length ∧ j = b.length)) :
    diff_table_next.f 1 a b (tabL a b) (i : Int) (j : Int) = some (((stepP a b i j).1 : Int), ((stepP a b i j).2.1 : Int), (stepP a b i j).2.2) := by
  have hw1 : wrap64 ((i : Int) + 1) = ((i + 1 : Nat) : Int) := (w64d (by omega) (by omega)).trans (by omega)
  have hw2 : wrap64 ((j : Int) + 1) = ((j + 1 : Nat) : Int) := (w64d (by omega) (by omega)).trans (by omega)
  unfold diff_table_next.f
  rcases step_cases a b hi hj he with ⟨h1, h2, e, hs⟩ | ⟨h1, hc, hs⟩ | ⟨h2, hc, hs⟩
  · rw [hs, if_pos (by omega), if_pos (by omega), if_pos (by omega), if_pos (by omega), rd_get h1, rd_get h2, e]
    simp only [diff_table_next.j0, beq_self_eq_true, if_true, hw1, hw2]
  · rw [hs, if_pos (by omega)]
    rcases hc with hc | ⟨_, h2, e, hl⟩
    · rw [if_neg (by omega)]
      simp only [diff_table_next.j0, Bool.false_eq_true, if_false, hw1]
      rw [if_pos (by omega)]
    · rw [if_pos (by omega), if_pos (by omega), if_pos (by omega), rd_get h1, rd_get h2, show (a[i] == b[j]) = false from by simpa using e]
      simp only [diff_table_next.j0, Bool.false_eq_true, if_false, hw1, hw2]
      rw [tabL_is, tabF_row (by omega), tabF_row (by omega)]
      simp only [tabF_len, List.length_map, List.length_range]
      rw [if_neg (by omega), if_pos (by omega), if_pos (by omega), if_pos (by omega), if_pos (by omega), if_pos (by omega), if_pos (by omega), if_pos (by omega), if_pos (by omega), if_pos (by omega), tabF_rd (by omega), tabF_rd (by omega), if_pos (by omega)]
  · rcases hc with hc | ⟨h1, _, e, hl⟩
    · rw [hs, if_neg (by omega)]
      simp only [diff_table_next.j0, Bool.false_eq_true, if_false, hw2]
      rw [if_neg (by omega), if_neg (by omega)]
    · rw [hs, if_pos (by omega), if_pos (by omega), if_pos (by omega), if_pos (by omega), rd_get h1, rd_get h2, show (a[i] == b[j]) = false from by simpa using e]
      simp only [diff_table_next.j0, Bool.false_eq_true, if_false, hw1, hw2]
      rw [tabL_is, tabF_row (by omega), tabF_row (by omega)]
      simp only [tabF_len, List.length_map, List.length_range]
      rw [if_neg (by omega), if_pos (by omega), if_pos (by omega), if_pos (by omega), if_pos (by omega), if_pos (by omega), if_pos (by omega), if_pos (by omega), if_pos (by omega), if_pos (by omega), tabF_rd (by omega), tabF_rd (by omega), if_neg (by omega)]
theorem next_any {A : Option Addr} {c : Nat} {a : List Int} {B : Option Addr} {d : Nat} {b : List Int} {g : Nat} {w : World} (hr0 : Kd.C (Kd.int .i64) w A a.length a) (hc0 : a.length ≤ c) (hr1 : Kd.C (Kd.int .i64) w B b.length b) (hc1 : b.length ≤ d) (hT : TabC w g a b) (ha : a.length ≤ 500) (hb : b.length ≤ 500)
    {i j : Nat} (hi : i ≤ a.length) (hj : j ≤ b.length) (he : ¬ (i = a.length ∧ j = b.length)) :
    Calls Try.prog 46 #[.agg #[.slice A a.length c, .slice B b.length d, .slice (some ⟨g, 0, none⟩) (a.length + 1) (a.length + 1)], .agg #[.int .i64 i, .int .i64 j]] w fun e w' => e = .returned (.tuple #[.agg #[.int .i64 (stepP a b i j).1, .int .i64 (stepP a b i j).2.1], .bool (stepP a b i j).2.2]) ∧ Below w.heap.size w w' := by
  have hl : (tabL a b).length = a.length + 1 := tabF_len ..
  have := diff_table_next.calls 1 A c a B d b (some ⟨g, 0, none⟩) (a.length + 1) (tabL a b) i j _ _ _ w hr0 hc0 hr1 hc1 (by rw [hl]; exact hT) (by rw [hl]; exact Nat.le_refl _) (next_some a b ha hb hi hj he)
  rw [hl] at this
  exact this
theorem end_any {A : Option Addr} {c : Nat} {a : List Int} {B : Option Addr} {d : Nat} {b : List Int} {g : Nat} {w : World} (hr0 : Kd.C (Kd.int .i64) w A a.length a) (hc0 : a.length ≤ c) (hr1 : Kd.C (Kd.int .i64) w B b.length b) (hc1 : b.length ≤ d) (hT : TabC w g a b)
    (i j : Nat) :
    Calls Try.prog 45 #[.agg #[.slice A a.length c, .slice B b.length d, .slice (some ⟨g, 0, none⟩) (a.length + 1) (a.length + 1)], .agg #[.int .i64 i, .int .i64 j]] w fun e w' => e = .returned (.bool (decide (i = a.length ∧ j = b.length))) ∧ Below w.heap.size w w' := by
  have hl : (tabL a b).length = a.length + 1 := tabF_len ..
  have := diff_table_end.calls A c a B d b (some ⟨g, 0, none⟩) (a.length + 1) (tabL a b) i j (decide (i = a.length ∧ j = b.length)) w hr0 hc0 hr1 hc1 (by rw [hl]; exact hT) (by rw [hl]; exact Nat.le_refl _) (by
    unfold diff_table_end.f
    by_cases h : i = a.length
    · rw [if_pos (by omega)]
      congr 1
      by_cases h2 : j = b.length
      · rw [decide_eq_true ⟨h, h2⟩]; simp; omega
      · rw [decide_eq_false (by omega)]; simp; omega
    · rw [if_neg (by omega), decide_eq_false (by omega)])
  rw [hl] at this
  exact this
theorem few_any (A : Option Addr) (c : Nat) (a : List Int) (B : Option Addr) (d : Nat) (b : List Int) (w : World) (hr0 : Kd.C (Kd.int .i64) w A a.length a) (hc0 : a.length ≤ c) (hr1 : Kd.C (Kd.int .i64) w B b.length b) (hc1 : b.length ≤ d) :
    Calls Try.prog 40 #[.slice A a.length c, .slice B b.length d] w fun e w' => e = .returned (.bool (decide (a.length ≤ 500 ∧ b.length ≤ 500))) ∧ Drawn0 w w' :=
  diff_few.calls A c a B d b _ w hr0 hc0 hr1 hc1 (by
    unfold diff_few.f
    by_cases h : a.length ≤ 500
    · rw [if_pos (by omega)]
      congr 1
      rw [decide_eq_decide]
      omega
    · rw [if_neg (by omega), decide_eq_false (by omega)])
theorem refStays_any (A : Option Addr) (c : Nat) (a : List Int) (B : Option Addr) (d : Nat) (b : List Int) (w : World) (hr0 : Kd.C (Kd.int .i64) w A a.length a) (hc0 : a.length ≤ c) (hr1 : Kd.C (Kd.int .i64) w B b.length b) (hc1 : b.length ≤ d) (ha : a.length ≤ 500) (hb : b.length ≤ 500) :
    Calls Try.prog 20 #[.slice A a.length c, .slice B b.length d] w fun e w' => ∃ A1 c1 A2 c2, e = .returned (.tuple #[.slice A1 a.length c1, .slice A2 b.length c2]) ∧ Kd.C Kd.bool w' A1 a.length (staysX a b) ∧ Kd.C (Kd.int .i64) w' A2 b.length (staysY a b) ∧ Below w.heap.size w w' := by
  obtain ⟨k, hk⟩ := stays_some a b ha hb
  refine (ligatureref31_Stays.calls k A c a B d b _ _ w hr0 hc0 hr1 hc1 hk).mono ?_
  rintro e w' ⟨v0, v1, rfl, ho0, ho1, hb⟩
  obtain ⟨A1, c1, rfl, h1, r1⟩ := Kd.R_reads ho0
  obtain ⟨A2, c2, rfl, h2, r2⟩ := Kd.R_reads ho1
  have l1 : (staysX a b).length = a.length := by simp [staysX, boolsOf]
  have l2 : (staysY a b).length = b.length := by simp [staysY, intsOf]
  rw [l1] at r1
  rw [l2] at r2
  exact ⟨A1, c1, A2, c2, by rw [l1, l2], r1, r2, hb⟩
theorem refLengths_any (A : Option Addr) (c : Nat) (a : List Int) (B : Option Addr) (d : Nat) (b : List Int) (w : World) (hr0 : Kd.C (Kd.int .i64) w A a.length a) (hc0 : a.length ≤ c) (hr1 : Kd.C (Kd.int .i64) w B b.length b) (hc1 : b.length ≤ d) (ha : a.length ≤ 500) (hb : b.length ≤ 500) :
    Calls Try.prog 24 #[.slice A a.length c, .slice B b.length d] w fun e w' => ∃ A1 c1, e = .returned (.slice A1 (a.length + 1) c1) ∧ Kd.C (Kd.slice 3 (Kd.int .i64)) w' A1 (a.length + 1) (tabL a b) ∧ Below w.heap.size w w' := by
  refine (ligatureref31_Lengths.calls _ A c a B d b _ w hr0 hc0 hr1 hc1 (lengths_some a b ha hb _ (Nat.le_refl _))).mono ?_
  rintro e w' ⟨v0, rfl, ho0, hb⟩
  obtain ⟨A1, c1, rfl, h1, r1⟩ := Kd.S_reads ho0
  have l1 : (tabL a b).length = a.length + 1 := tabF_len ..
  rw [l1] at r1
  exact ⟨A1, c1, by rw [l1], r1, hb⟩
end Go.Proofs.Ytphdbombgljamaa.Df
