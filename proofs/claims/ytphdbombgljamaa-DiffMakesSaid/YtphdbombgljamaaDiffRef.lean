/- The reference's table and what stays, in the words of the walks: plain; no condition but the lists' lengths. -/
import Derived.Test.YtphdbombgljamaaTab
import Derived.Test.YtphdbombgljamaaRfx3
import Derived.Test.YtphdbombgljamaaRfx4
namespace Go.Proofs.Ytphdbombgljamaa.Df
open Go.RowKit Go.Proofs.YtphdbombgljamaaW.PrintWords Go.Proofs.YtphdbombgljamaaW.PrintLast Go.Proofs.YtphdbombgljamaaW.PrintMore Go.Proofs.Ytphdbombgljamaa.Rf Go.Proofs.Ytphdbombgljamaa.Aid
set_option linter.unusedVariables false
set_option linter.unusedSimpArgs false

/-- a table by its numbers -/
def tabF (n m : Nat) (T : Nat → Nat → Int) : List (List Int) := (List.range (n + 1)).map (fun i => (List.range (m + 1)).map (fun k => T i k))
theorem tabL_is (a b : List Int) : tabL a b = tabF a.length b.length (fun i k => (L a b i k : Int)) := rfl
theorem tabF_len (n m : Nat) (T : Nat → Nat → Int) : (tabF n m T).length = n + 1 := by simp [tabF]
theorem tabF_row {n m : Nat} {T : Nat → Nat → Int} {i : Nat} (h : i ≤ n) : rd_L3 (tabF n m T) (i : Int) = (List.range (m + 1)).map (fun k => T i k) := by
  unfold rd_L3 tabF
  rw [Int.toNat_natCast, List.getD_eq_getElem?_getD, List.getElem?_map, List.getElem?_range (by omega)]
  rfl
theorem tabF_rd {m : Nat} {R : Nat → Int} {k : Nat} (h : k ≤ m) : rd ((List.range (m + 1)).map R) (k : Int) = R k := by
  unfold rd
  rw [Int.toNat_natCast, List.getD_eq_getElem?_getD, List.getElem?_map, List.getElem?_range (by omega)]
  rfl
theorem map_set {α : Type} (R : Nat → α) (n k : Nat) (v : α) : ((List.range n).map R).set k v = (List.range n).map (fun j => if j = k then v else R j) := by
  apply List.ext_getElem?
  intro j
  rw [List.getElem?_set]
  by_cases hj : j < n
  · by_cases e : k = j
    · subst e; simp [hj]
    · simp [hj, e, Ne.symm e]
  · by_cases e : k = j
    · subst e; simp [hj]
    · simp [hj, e]
theorem tabF_set {n m : Nat} {T : Nat → Nat → Int} {i k : Nat} (v : Int) : (tabF n m T).set i (((List.range (m + 1)).map (fun k => T i k)).set k v) = tabF n m (fun p q => if p = i ∧ q = k then v else T p q) := by
  unfold tabF
  rw [map_set, map_set]
  apply List.map_congr_left
  intro p hp
  by_cases e : p = i
  · subst e; simp
  · simp [e]
theorem tabF_congr {n m : Nat} {T T' : Nat → Nat → Int} (h : ∀ p q, p ≤ n → q ≤ m → T p q = T' p q) : tabF n m T = tabF n m T' := by
  unfold tabF
  apply List.map_congr_left
  intro p hp
  apply List.map_congr_left
  intro q hq
  exact h p q (by have := List.mem_range.1 hp; omega) (by have := List.mem_range.1 hq; omega)
theorem mx_nat (x y : Nat) : mx (x : Int) (y : Int) = ((max x y : Nat) : Int) := by unfold mx; split <;> omega

set_option maxHeartbeats 1000000 in
theorem len2 (a b : List Int) (ha : a.length ≤ 500) (hb : b.length ≤ 500) (e1 : Nat) (he : e1 < a.length) (R : Option (List (List Int))) (B : Nat)
    (hB : ∀ k, B ≤ k → ligatureref31_Lengths.l1 k a b (tabF a.length b.length (done a b e1 b.length)) ((e1 : Int) - 1) = R) :
    ∀ (f k : Nat), f ≤ b.length → f + 1 + B ≤ k → ligatureref31_Lengths.l2 k a b (tabF a.length b.length (done a b (e1 + 1) f)) (e1 : Int) ((f : Int) - 1) = R
  | 0, k, hf, hk => by
    obtain ⟨k, rfl⟩ : ∃ m, k = m + 1 := ⟨k - 1, by omega⟩
    simp only [ligatureref31_Lengths.l2]
    rw [if_neg (by omega), w64d (by omega) (by omega), ← hB k (by omega), tabF_congr (fun p q _ hq => (done_row a b hq).symm)]
  | f + 1, k, hf, hk => by
    obtain ⟨k, rfl⟩ : ∃ m, k = m + 1 := ⟨k - 1, by omega⟩
    have hf' : f < b.length := by omega
    have hfi : ((f + 1 : Nat) : Int) - 1 = (f : Int) := by omega
    have hw1 : wrap64 ((e1 : Int) + 1) = ((e1 + 1 : Nat) : Int) := (w64d (by omega) (by omega)).trans (by omega)
    have hw2 : wrap64 ((f : Int) + 1) = ((f + 1 : Nat) : Int) := (w64d (by omega) (by omega)).trans (by omega)
    have hw3 : wrap64 ((f : Int) - 1) = (f : Int) - 1 := w64d (by omega) (by omega)
    have b11 := L_le a b (e1 + 1) (f + 1)
    have b10 := L_le a b (e1 + 1) f
    have b01 := L_le a b e1 (f + 1)
    have hst := L_ref a b he hf'
    have hd : ∀ p q, done a b (e1 + 1) f p q = if p = e1 ∧ q = f then (L a b e1 f : Int) else done a b (e1 + 1) (f + 1) p q := fun p q => done_step a b
    have g10 : done a b (e1 + 1) (f + 1) (e1 + 1) f = (L a b (e1 + 1) f : Int) := done_is a b (by omega)
    have g01 : done a b (e1 + 1) (f + 1) e1 (f + 1) = (L a b e1 (f + 1) : Int) := done_is a b (by omega)
    have g11 : done a b (e1 + 1) (f + 1) (e1 + 1) (f + 1) = (L a b (e1 + 1) (f + 1) : Int) := done_is a b (by omega)
    have ih := len2 a b ha hb e1 he R B hB f k (by omega) (by omega)
    rw [hfi]
    simp only [ligatureref31_Lengths.l2, hw1, hw2, hw3]
    rw [tabF_row (by omega), tabF_row (by omega)]
    simp only [tabF_len, List.length_map, List.length_range]
    rw [if_pos (by omega), if_pos (by omega), if_pos (by omega), if_pos (by omega), if_pos (by omega), if_pos (by omega), if_pos (by omega), if_pos (by omega), if_pos (by omega), if_pos (by omega)]
    rw [tabF_rd (by omega), tabF_rd (by omega), g10, g01, mx_nat, Int.toNat_natCast, Int.toNat_natCast, tabF_set, Option.bind_some]
    obtain ⟨T', hT⟩ : ∃ T' : Nat → Nat → Int, T' = (fun p q => if p = e1 ∧ q = f then ((max (L a b (e1 + 1) f) (L a b e1 (f + 1)) : Nat) : Int) else done a b (e1 + 1) (f + 1) p q) := ⟨_, rfl⟩
    rw [← hT]
    have t00 : T' e1 f = ((max (L a b (e1 + 1) f) (L a b e1 (f + 1)) : Nat) : Int) := by rw [hT]; exact if_pos ⟨rfl, rfl⟩
    have t11 : T' (e1 + 1) (f + 1) = (L a b (e1 + 1) (f + 1) : Int) := by rw [hT]; exact (if_neg (by omega)).trans g11
    have tpq : ∀ p q, T' p q = if p = e1 ∧ q = f then ((max (L a b (e1 + 1) f) (L a b e1 (f + 1)) : Nat) : Int) else done a b (e1 + 1) (f + 1) p q := fun p q => by rw [hT]
    clear hT
    rw [if_pos (by omega), if_pos (by omega), rd_get he, rd_get hf']
    rw [tabF_row (by omega), tabF_row (by omega)]
    simp only [List.length_map, List.length_range]
    by_cases e : a[e1] = b[f]
    · rw [if_pos e] at hst
      rw [if_pos e, if_pos (by omega), if_pos (by omega), tabF_rd (by omega), tabF_rd (by omega)]
      rw [t00, t11]
      rw [w64d (by omega) (by omega), show (L a b (e1 + 1) (f + 1) : Int) + 1 = ((L a b (e1 + 1) (f + 1) + 1 : Nat) : Int) from by omega, mx_nat, ← hst, tabF_set]
      rw [← ih]
      congr 1
      apply tabF_congr
      intro p q _ _
      rw [hd, tpq]
      by_cases h : p = e1 ∧ q = f
      · simp [h]
      · simp [h]
    · rw [if_neg e] at hst
      rw [if_neg e, ← ih]
      congr 1
      apply tabF_congr
      intro p q _ _
      rw [hd, hst, tpq]
theorem len1 (a b : List Int) (ha : a.length ≤ 500) (hb : b.length ≤ 500) : ∀ (e k : Nat), e ≤ a.length → e * (b.length + 2) + 1 ≤ k → ligatureref31_Lengths.l1 k a b (tabF a.length b.length (done a b e b.length)) ((e : Int) - 1) = some (tabL a b)
  | 0, k, he, hk => by
    obtain ⟨k, rfl⟩ : ∃ m, k = m + 1 := ⟨k - 1, by omega⟩
    simp only [ligatureref31_Lengths.l1]
    rw [if_neg (by omega), tabL_is, tabF_congr (fun p q _ _ => done_is a b (.inl (Nat.zero_le _)))]
  | e + 1, k, he, hk => by
    rw [Nat.add_mul] at hk
    obtain ⟨k, rfl⟩ : ∃ m, k = m + 1 := ⟨k - 1, by omega⟩
    have hei : ((e + 1 : Nat) : Int) - 1 = (e : Int) := by omega
    rw [hei]
    simp only [ligatureref31_Lengths.l1]
    rw [if_pos (by omega), w64d (by omega) (by omega)]
    exact len2 a b ha hb e (by omega) _ (e * (b.length + 2) + 1) (fun k' hk' => len1 a b ha hb e k' (by omega) hk') b.length k (Nat.le_refl _) (by omega)
theorem len0 (a b : List Int) (ha : a.length ≤ 500) (hb : b.length ≤ 500) : ∀ (d k i : Nat), i ≤ a.length + 1 → a.length + 1 - i = d → d + 1 + (a.length * (b.length + 2) + 1) ≤ k → ligatureref31_Lengths.l0 k a b (List.replicate i (List.replicate (b.length + 1) 0)) (i : Int) = some (tabL a b)
  | 0, k, i, h0, h1, h2 => by
    obtain ⟨k, rfl⟩ : ∃ m, k = m + 1 := ⟨k - 1, by omega⟩
    obtain rfl : i = a.length + 1 := by omega
    simp only [ligatureref31_Lengths.l0]
    rw [if_neg (by omega), w64d (by omega) (by omega)]
    have : List.replicate (a.length + 1) (List.replicate (b.length + 1) (0 : Int)) = tabF a.length b.length (done a b a.length b.length) := by
      rw [tabF_congr (T' := fun _ _ => 0) (fun p q hp hq => done_start a b (by omega) hq)]
      unfold tabF
      simp only [List.map_const', List.length_range]
    rw [this]
    exact len1 a b ha hb a.length k (Nat.le_refl _) (by omega)
  | d + 1, k, i, h0, h1, h2 => by
    obtain ⟨k, rfl⟩ : ∃ m, k = m + 1 := ⟨k - 1, by omega⟩
    have hw : wrap64 ((i : Int) + 1) = ((i + 1 : Nat) : Int) := (w64d (by omega) (by omega)).trans (by omega)
    have hwb : wrap64 ((b.length : Int) + 1) = ((b.length + 1 : Nat) : Int) := (w64d (by omega) (by omega)).trans (by omega)
    simp only [ligatureref31_Lengths.l0, hw, hwb, Int.toNat_natCast, List.length_replicate]
    rw [if_pos (by omega), if_pos (by omega), if_pos (by omega), if_pos (by omega)]
    have : List.replicate i (List.replicate (b.length + 1) (0 : Int)) ++ [List.replicate (b.length + 1) 0] = List.replicate (i + 1) (List.replicate (b.length + 1) 0) := by
      rw [List.replicate_succ' (n := i)]
    rw [this]
    exact len0 a b ha hb d k (i + 1) (by omega) (by omega) (by omega)
theorem lengths_some (a b : List Int) (ha : a.length ≤ 500) (hb : b.length ≤ 500) (k : Nat) (hk : a.length + 2 + (a.length * (b.length + 2) + 1) ≤ k) : ligatureref31_Lengths.f k a b = some (tabL a b) :=
  len0 a b ha hb (a.length + 1) k 0 (by omega) (by omega) (by omega)

/-! ### what stays -/
def boolsOf (n : Nat) (X : Nat → Bool) : List Bool := (List.range n).map X
def intsOf (n : Nat) (Y : Nat → Int) : List Int := (List.range n).map Y
def lookO (l : List (Nat × Nat)) (k : Nat) : Option Int := (l.find? (fun p => p.2 == k)).map (fun p => (p.1 : Int))
theorem up_none {a b : List Int} : ∀ {l : List (Nat × Nat)} {i k : Nat}, Up a b i (k + 1) l → lookO l k = none
  | [], _, _, _ => rfl
  | (p, q) :: l, i, k, h => by
    have h2 := h.2.1
    have hl : Up a b (p + 1) (k + 1) l := h.2.2.2.lower (Nat.le_refl _) (by omega)
    have ih := up_none hl
    unfold lookO at ih ⊢
    rw [List.find?_cons]
    have : (q == k) = false := by simp; omega
    simp only [this]
    exact ih

set_option maxHeartbeats 1000000 in
theorem srun (a b : List Int) (ha : a.length ≤ 500) (hb : b.length ≤ 500) : ∀ (f k i j : Nat) (X : Nat → Bool) (Y : Nat → Int), i ≤ a.length → j ≤ b.length → (a.length - i) + (b.length - j) ≤ f → 2 * f + 2 ≤ k →
    ligatureref31_Stays.l1 k a b (tabL a b) (boolsOf a.length X) (intsOf b.length Y) (i : Int) (j : Int) = some (boolsOf a.length (fun p => X p || hasI (go a b f i j) p), intsOf b.length (fun q => (lookO (go a b f i j) q).getD (Y q)))
  | f, k, i, j, X, Y, hi, hj, hf, hk => by
    obtain ⟨k, rfl⟩ : ∃ m, k = m + 2 := ⟨k - 2, by omega⟩
    by_cases hin : i < a.length ∧ j < b.length
    · obtain ⟨h1, h2⟩ := hin
      obtain ⟨f, rfl⟩ : ∃ m, f = m + 1 := ⟨f - 1, by omega⟩
      have he : ¬ (i = a.length ∧ j = b.length) := by omega
      have hw1 : wrap64 ((i : Int) + 1) = ((i + 1 : Nat) : Int) := (w64d (by omega) (by omega)).trans (by omega)
      have hw2 : wrap64 ((j : Int) + 1) = ((j + 1 : Nat) : Int) := (w64d (by omega) (by omega)).trans (by omega)
      simp only [ligatureref31_Stays.l1, hw1, hw2]
      rw [if_pos (by omega), decide_eq_true (show (j : Int) < (b.length : Int) by omega)]
      simp only [ligatureref31_Stays.j2, hw1, hw2, if_true]
      rw [if_pos (by omega), if_pos (by omega), if_pos (by omega), if_pos (by omega), rd_get h1, rd_get h2]
      rcases step_cases a b hi hj he with ⟨_, _, e, hs⟩ | ⟨_, hc, hs⟩ | ⟨_, hc, hs⟩
      · rw [if_pos e, if_pos (by simp [boolsOf]; omega), if_pos (by simp [intsOf]; omega), go_stay he hs, Int.toNat_natCast, Int.toNat_natCast]
        unfold boolsOf intsOf
        rw [map_set, map_set]
        have ih := srun a b ha hb f k (i + 1) (j + 1) (fun p => if p = i then true else X p) (fun q => if q = j then (i : Int) else Y q) (by omega) (by omega) (by omega) (by omega)
        unfold boolsOf intsOf at ih
        rw [ih]
        congr 2
        · apply List.map_congr_left
          intro p _
          by_cases e2 : p = i
          · simp [e2, hasI]
          · have : (i == p) = false := by simp; omega
            simp [e2, hasI, this]
        · apply List.map_congr_left
          intro q _
          have hup := up_none (l := go a b f (i + 1) (j + 1)) (go_up a b f (i + 1) (j + 1) (by omega) (by omega))
          by_cases e2 : q = j
          · subst e2
            rw [hup]
            simp [lookO]
          · have : (j == q) = false := by simp; omega
            simp [e2, lookO, this]
      · rcases hc with hc | ⟨_, _, e, hl⟩
        · omega
        · have b1 := L_le a b (i + 1) j
          rw [if_neg e, tabL_is, tabF_row (by omega), tabF_row (by omega)]
          simp only [tabF_len, List.length_map, List.length_range]
          rw [if_pos (by omega), if_pos (by omega), if_pos (by omega), if_pos (by omega), if_pos (by omega), if_pos (by omega), tabF_rd (by omega), tabF_rd (by omega), if_pos (by omega), go_pass he hs]
          rw [← tabL_is]
          exact srun a b ha hb f k (i + 1) j X Y (by omega) hj (by omega) (by omega)
      · rcases hc with hc | ⟨_, _, e, hl⟩
        · omega
        · rw [if_neg e, tabL_is, tabF_row (by omega), tabF_row (by omega)]
          simp only [tabF_len, List.length_map, List.length_range]
          rw [if_pos (by omega), if_pos (by omega), if_pos (by omega), if_pos (by omega), if_pos (by omega), if_pos (by omega), tabF_rd (by omega), tabF_rd (by omega), if_neg (by omega), go_pass he hs]
          rw [← tabL_is]
          exact srun a b ha hb f k i (j + 1) X Y hi (by omega) (by omega) (by omega)
    · have hj2 : (if (i : Int) < (a.length : Int) then ligatureref31_Stays.j2 (k + 1) a b (tabL a b) (boolsOf a.length X) (intsOf b.length Y) (i : Int) (j : Int) (decide ((j : Int) < (b.length : Int))) else ligatureref31_Stays.j2 (k + 1) a b (tabL a b) (boolsOf a.length X) (intsOf b.length Y) (i : Int) (j : Int) false) = ligatureref31_Stays.j2 (k + 1) a b (tabL a b) (boolsOf a.length X) (intsOf b.length Y) (i : Int) (j : Int) false := by
        by_cases h1 : (i : Int) < (a.length : Int)
        · rw [if_pos h1, decide_eq_false (by omega)]
        · rw [if_neg h1]
      simp only [ligatureref31_Stays.l1]
      rw [hj2]
      simp only [ligatureref31_Stays.j2, Bool.false_eq_true, if_false]
      rw [go_rest a b f i j hi hj (by omega)]
      simp [hasI, lookO]
termination_by f => f
def staysX (a b : List Int) : List Bool := boolsOf a.length (hasI (pairs a b))
def staysY (a b : List Int) : List Int := intsOf b.length (lookK (pairs a b))
theorem lookK_is (l : List (Nat × Nat)) (q : Nat) : lookK l q = (lookO l q).getD (-1) := by
  unfold lookK lookO
  cases l.find? (fun p => p.2 == q) <;> rfl
theorem sini (a b : List Int) (ha : a.length ≤ 500) (hb : b.length ≤ 500) : ∀ (d k j : Nat) (Y : Nat → Int), j ≤ b.length → b.length - j = d → (∀ q, q < j → Y q = -1) → d + 1 + (2 * (a.length + b.length) + 2) ≤ k →
    ligatureref31_Stays.l0 k a b (tabL a b) (boolsOf a.length (fun _ => false)) (intsOf b.length Y) (j : Int) = some (staysX a b, staysY a b)
  | 0, k, j, Y, h0, h1, hY, h2 => by
    obtain ⟨k, rfl⟩ : ∃ m, k = m + 1 := ⟨k - 1, by omega⟩
    simp only [ligatureref31_Stays.l0]
    rw [if_neg (by omega)]
    have := srun a b ha hb (a.length + b.length) k 0 0 (fun _ => false) Y (by omega) (by omega) (by omega) (by omega)
    refine this.trans ?_
    unfold staysX staysY boolsOf intsOf pairs
    congr 2
    apply List.map_congr_left
    intro q hq
    rw [lookK_is, hY q (by have := List.mem_range.1 hq; omega)]
  | d + 1, k, j, Y, h0, h1, hY, h2 => by
    obtain ⟨k, rfl⟩ : ∃ m, k = m + 1 := ⟨k - 1, by omega⟩
    have hw : wrap64 ((j : Int) + 1) = ((j + 1 : Nat) : Int) := (w64d (by omega) (by omega)).trans (by omega)
    simp only [ligatureref31_Stays.l0, hw]
    rw [if_pos (by omega), if_pos (by omega), if_pos (by simp [intsOf]; omega), Int.toNat_natCast]
    have : (intsOf b.length Y).set j (-1) = intsOf b.length (fun q => if q = j then -1 else Y q) := map_set ..
    rw [this]
    exact sini a b ha hb d k (j + 1) _ (by omega) (by omega) (fun q hq => by
      show (if q = j then -1 else Y q) = -1
      split
      · rfl
      · exact hY q (by omega)) (by omega)
theorem stays_some (a b : List Int) (ha : a.length ≤ 500) (hb : b.length ≤ 500) : ∃ k, ligatureref31_Stays.f k a b = some (staysX a b, staysY a b) := by
  refine ⟨(a.length + 2 + (a.length * (b.length + 2) + 1)) + (b.length + 1 + (2 * (a.length + b.length) + 2)), ?_⟩
  unfold ligatureref31_Stays.f
  rw [lengths_some a b ha hb _ (by omega), Option.bind_some, if_pos (by omega), if_pos (by omega), if_pos (by omega), if_pos (by omega), Int.toNat_natCast, Int.toNat_natCast]
  have := sini a b ha hb b.length ((a.length + 2 + (a.length * (b.length + 2) + 1)) + (b.length + 1 + (2 * (a.length + b.length) + 2))) 0 (fun _ => 0) (by omega) (by omega) (fun q hq => absurd hq (by omega)) (by omega)
  have e1 : List.replicate a.length false = boolsOf a.length (fun _ => false) := by unfold boolsOf; rw [List.map_const', List.length_range]
  have e2 : List.replicate b.length (0 : Int) = intsOf b.length (fun _ => 0) := by unfold intsOf; rw [List.map_const', List.length_range]
  rw [e1, e2]
  exact this
end Go.Proofs.Ytphdbombgljamaa.Df
