/- Two lists' longest common list, the walk through both, the windows: plain; no condition. -/
import Derived.Test.YtphdbombgljamaaRfx0
namespace Go.Proofs.Ytphdbombgljamaa.Df
open Go.Proofs.Ytphdbombgljamaa.Rf
set_option linter.unusedVariables false
set_option linter.unusedSimpArgs false

/-- how long the longest common list is -/
def lcs : List Int → List Int → Nat
  | [], _ => 0
  | _ :: _, [] => 0
  | x :: xs, y :: ys => if x = y then lcs xs ys + 1 else max (lcs xs (y :: ys)) (lcs (x :: xs) ys)
termination_by a b => a.length + b.length
theorem lcs_nil (b : List Int) : lcs [] b = 0 := by unfold lcs; rfl
theorem lcs_nil2 (a : List Int) : lcs a [] = 0 := by cases a <;> (unfold lcs; rfl)
theorem lcs_cons (x y : Int) (xs ys : List Int) : lcs (x :: xs) (y :: ys) = if x = y then lcs xs ys + 1 else max (lcs xs (y :: ys)) (lcs (x :: xs) ys) := by rw [lcs]
theorem lcs_near : ∀ (n : Nat) (a b : List Int), a.length + b.length ≤ n → (∀ y, lcs a b ≤ lcs a (y :: b) ∧ lcs a (y :: b) ≤ lcs a b + 1) ∧ (∀ x, lcs a b ≤ lcs (x :: a) b ∧ lcs (x :: a) b ≤ lcs a b + 1)
  | 0, a, b, h => by
    obtain rfl : a = [] := List.eq_nil_of_length_eq_zero (by omega)
    obtain rfl : b = [] := List.eq_nil_of_length_eq_zero (by omega)
    exact ⟨fun y => by simp [lcs_nil], fun x => by simp [lcs_nil2]⟩
  | n + 1, a, b, h => by
    refine ⟨fun y => ?_, fun x => ?_⟩
    · cases a with
      | nil => simp [lcs_nil]
      | cons x xs =>
        simp only [List.length_cons] at h
        obtain ⟨p1, p2⟩ := lcs_near n xs b (by omega)
        have q1 := p1 y; have q2 := p2 x
        rw [lcs_cons]
        split <;> omega
    · cases b with
      | nil => simp [lcs_nil2]
      | cons y ys =>
        simp only [List.length_cons] at h
        obtain ⟨p1, p2⟩ := lcs_near n a ys (by omega)
        have q1 := p1 y; have q2 := p2 x
        rw [lcs_cons]
        split <;> omega
theorem lcs_le : ∀ (n : Nat) (a b : List Int), a.length + b.length ≤ n → lcs a b ≤ a.length
  | 0, a, b, h => by
    obtain rfl : a = [] := List.eq_nil_of_length_eq_zero (by omega)
    simp [lcs_nil]
  | n + 1, a, b, h => by
    cases a with
    | nil => simp [lcs_nil]
    | cons x xs =>
      cases b with
      | nil => simp [lcs_nil2]
      | cons y ys =>
        simp only [List.length_cons] at h ⊢
        have h1 := lcs_le n xs ys (by omega)
        have h2 := lcs_le n xs (y :: ys) (by simp; omega)
        have h3 := lcs_le n (x :: xs) ys (by simp; omega)
        simp only [List.length_cons] at h3
        rw [lcs_cons]
        split <;> omega

/-- of what is left from places on -/
def L (a b : List Int) (i k : Nat) : Nat := lcs (a.drop i) (b.drop k)
theorem L_end1 (a b : List Int) (i k : Nat) (h : a.length ≤ i) : L a b i k = 0 := by unfold L; rw [List.drop_eq_nil_of_le h, lcs_nil]
theorem L_end2 (a b : List Int) (i k : Nat) (h : b.length ≤ k) : L a b i k = 0 := by unfold L; rw [List.drop_eq_nil_of_le h, lcs_nil2]
theorem L_step (a b : List Int) {i k : Nat} (hi : i < a.length) (hk : k < b.length) : L a b i k = if a[i] = b[k] then L a b (i + 1) (k + 1) + 1 else max (L a b (i + 1) k) (L a b i (k + 1)) := by
  unfold L
  rw [List.drop_eq_getElem_cons hi, List.drop_eq_getElem_cons hk, lcs_cons, ← List.drop_eq_getElem_cons hi, ← List.drop_eq_getElem_cons hk]
theorem L_ref (a b : List Int) {i k : Nat} (hi : i < a.length) (hk : k < b.length) : L a b i k = if a[i] = b[k] then max (max (L a b (i + 1) k) (L a b i (k + 1))) (L a b (i + 1) (k + 1) + 1) else max (L a b (i + 1) k) (L a b i (k + 1)) := by
  rw [L_step a b hi hk]
  have h1 := (lcs_near _ (a.drop (i + 1)) (b.drop (k + 1)) (Nat.le_refl _)).1 b[k]
  have h2 := (lcs_near _ (a.drop (i + 1)) (b.drop (k + 1)) (Nat.le_refl _)).2 a[i]
  rw [← List.drop_eq_getElem_cons hk] at h1
  rw [← List.drop_eq_getElem_cons hi] at h2
  unfold L
  split
  · omega
  · rfl
theorem L_le (a b : List Int) (i k : Nat) : L a b i k ≤ a.length := by
  unfold L
  have := lcs_le _ (a.drop i) (b.drop k) (Nat.le_refl _)
  rw [List.length_drop] at this
  omega

/-- the next step of the walk, and whether a number stays by it -/
def stepP (a b : List Int) (i k : Nat) : Nat × Nat × Bool :=
  if i < a.length ∧ k < b.length ∧ a[i]? = b[k]? then (i + 1, k + 1, true)
  else if k = b.length ∨ (i < a.length ∧ L a b i (k + 1) ≤ L a b (i + 1) k) then (i + 1, k, false) else (i, k + 1, false)
/-- what stays, from places on -/
def go (a b : List Int) : Nat → Nat → Nat → List (Nat × Nat)
  | 0, _, _ => []
  | f + 1, i, k => if i = a.length ∧ k = b.length then [] else (if (stepP a b i k).2.2 then (i, k) :: go a b f (stepP a b i k).1 (stepP a b i k).2.1 else go a b f (stepP a b i k).1 (stepP a b i k).2.1)
theorem step_cases (a b : List Int) {i k : Nat} (hi : i ≤ a.length) (hk : k ≤ b.length) (he : ¬ (i = a.length ∧ k = b.length)) :
    (∃ (h1 : i < a.length) (h2 : k < b.length), a[i] = b[k] ∧ stepP a b i k = (i + 1, k + 1, true)) ∨
    (i < a.length ∧ (k = b.length ∨ (∃ (h1 : i < a.length) (h2 : k < b.length), a[i] ≠ b[k] ∧ L a b i (k + 1) ≤ L a b (i + 1) k)) ∧ stepP a b i k = (i + 1, k, false)) ∨
    (k < b.length ∧ (i = a.length ∨ (∃ (h1 : i < a.length) (h2 : k < b.length), a[i] ≠ b[k] ∧ L a b (i + 1) k < L a b i (k + 1))) ∧ stepP a b i k = (i, k + 1, false)) := by
  by_cases h1 : i < a.length
  · by_cases h2 : k < b.length
    · by_cases e : a[i] = b[k]
      · exact .inl ⟨h1, h2, e, by unfold stepP; rw [if_pos ⟨h1, h2, by simp [h1, h2, e]⟩]⟩
      · have hn : ¬ (i < a.length ∧ k < b.length ∧ a[i]? = b[k]?) := fun h => e (by have := h.2.2; simpa [h1, h2] using this)
        by_cases hc : L a b i (k + 1) ≤ L a b (i + 1) k
        · exact .inr (.inl ⟨h1, .inr ⟨h1, h2, e, hc⟩, by unfold stepP; rw [if_neg hn, if_pos (.inr ⟨h1, hc⟩)]⟩)
        · exact .inr (.inr ⟨h2, .inr ⟨h1, h2, e, by omega⟩, by unfold stepP; rw [if_neg hn, if_neg (by rintro (h | h); omega; exact hc h.2)]⟩)
    · exact .inr (.inl ⟨h1, .inl (by omega), by unfold stepP; rw [if_neg (by omega), if_pos (.inl (by omega))]⟩)
  · have h2 : k < b.length := by omega
    exact .inr (.inr ⟨h2, .inl (by omega), by unfold stepP; rw [if_neg (by omega), if_neg (by omega)]⟩)
theorem go_end (a b : List Int) (f : Nat) : go a b f a.length b.length = [] := by cases f <;> simp [go]
theorem go_stay {a b : List Int} {f i k : Nat} (he : ¬ (i = a.length ∧ k = b.length)) {i' k' : Nat} (hs : stepP a b i k = (i', k', true)) : go a b (f + 1) i k = (i, k) :: go a b f i' k' := by rw [go, if_neg he, hs]; rfl
theorem go_pass {a b : List Int} {f i k : Nat} (he : ¬ (i = a.length ∧ k = b.length)) {i' k' : Nat} (hs : stepP a b i k = (i', k', false)) : go a b (f + 1) i k = go a b f i' k' := by rw [go, if_neg he, hs]; rfl
/-- At an end of one nothing stays any more. -/
theorem go_rest (a b : List Int) : ∀ (f i k : Nat), i ≤ a.length → k ≤ b.length → (i = a.length ∨ k = b.length) → go a b f i k = []
  | 0, i, k, _, _, _ => rfl
  | f + 1, i, k, hi, hk, h => by
    by_cases he : i = a.length ∧ k = b.length
    · rw [he.1, he.2, go_end]
    · rcases step_cases a b hi hk he with ⟨h1, h2, _⟩ | ⟨h1, h2, hs⟩ | ⟨h1, h2, hs⟩
      · omega
      · rw [go_pass he hs]
        exact go_rest a b f _ _ (by omega) hk (.inr (by rcases h with h | h; omega; exact h))
      · rw [go_pass he hs]
        exact go_rest a b f _ _ hi (by omega) (.inl (by rcases h with h | h; exact h; omega))
/-- As many stay as the longest common list has. -/
theorem go_count (a b : List Int) : ∀ (f i k : Nat), i ≤ a.length → k ≤ b.length → (a.length - i) + (b.length - k) ≤ f → (go a b f i k).length = L a b i k
  | 0, i, k, hi, hk, hf => by rw [L_end1 a b i k (by omega)]; rfl
  | f + 1, i, k, hi, hk, hf => by
    by_cases he : i = a.length ∧ k = b.length
    · rw [he.1, he.2, go_end, L_end1 a b _ _ (Nat.le_refl _)]; rfl
    · rcases step_cases a b hi hk he with ⟨h1, h2, e, hs⟩ | ⟨h1, h2, hs⟩ | ⟨h1, h2, hs⟩
      · rw [go_stay he hs, List.length_cons, go_count a b f _ _ (by omega) (by omega) (by omega), L_step a b h1 h2, if_pos e]
      · rw [go_pass he hs, go_count a b f _ _ (by omega) hk (by omega)]
        rcases h2 with h2 | ⟨_, h2, e, hl⟩
        · rw [L_end2 a b _ _ (by omega), L_end2 a b _ _ (by omega)]
        · rw [L_step a b h1 h2, if_neg e]; omega
      · rw [go_pass he hs, go_count a b f _ _ hi (by omega) (by omega)]
        rcases h2 with h2 | ⟨h3, h2, e, hl⟩
        · rw [L_end1 a b _ _ (by omega), L_end1 a b _ _ (by omega)]
        · rw [L_step a b h3 h2, if_neg e]; omega
/-- What stays goes up in both, and is the same in both. -/
def Up (a b : List Int) : Nat → Nat → List (Nat × Nat) → Prop
  | i, k, [] => i ≤ a.length ∧ k ≤ b.length
  | i, k, (p, q) :: l => i ≤ p ∧ k ≤ q ∧ (∃ (h1 : p < a.length) (h2 : q < b.length), a[p] = b[q]) ∧ Up a b (p + 1) (q + 1) l
theorem Up.lower {a b : List Int} {i k i' k' : Nat} (hi : i' ≤ i) (hk : k' ≤ k) : ∀ {l : List (Nat × Nat)}, Up a b i k l → Up a b i' k' l
  | [], h => ⟨Nat.le_trans hi h.1, Nat.le_trans hk h.2⟩
  | (p, q) :: l, h => ⟨Nat.le_trans hi h.1, Nat.le_trans hk h.2.1, h.2.2⟩
theorem go_up (a b : List Int) : ∀ (f i k : Nat), i ≤ a.length → k ≤ b.length → Up a b i k (go a b f i k)
  | 0, i, k, hi, hk => ⟨hi, hk⟩
  | f + 1, i, k, hi, hk => by
    by_cases he : i = a.length ∧ k = b.length
    · rw [he.1, he.2, go_end]; exact ⟨Nat.le_refl _, Nat.le_refl _⟩
    · rcases step_cases a b hi hk he with ⟨h1, h2, e, hs⟩ | ⟨h1, h2, hs⟩ | ⟨h1, h2, hs⟩
      · rw [go_stay he hs]; exact ⟨Nat.le_refl _, Nat.le_refl _, ⟨h1, h2, e⟩, go_up a b f _ _ (by omega) (by omega)⟩
      · rw [go_pass he hs]; exact (go_up a b f (i + 1) k (by omega) hk).lower (by omega) (Nat.le_refl _)
      · rw [go_pass he hs]; exact (go_up a b f i (k + 1) hi (by omega)).lower (Nat.le_refl _) (by omega)
/-- All that stays. -/
def pairs (a b : List Int) : List (Nat × Nat) := go a b (a.length + b.length) 0 0
def hasI (l : List (Nat × Nat)) (i : Nat) : Bool := l.any (fun p => p.1 == i)
def lookK (l : List (Nat × Nat)) (k : Nat) : Int := match l.find? (fun p => p.2 == k) with | some p => (p.1 : Int) | none => -1

/-! ### windows -/
def cutB (b : List Int) (i j : Nat) : List Int := (b.take j).drop i
def oneW (b : List Int) (fi fk i k : Nat) : List S43 := if i = fi ∧ k = fk then [] else [⟨fi, i, cutB b fk k⟩]
def winF (a b : List Int) : Nat → Nat → List (Nat × Nat) → List S43
  | fi, fk, [] => oneW b fi fk a.length b.length
  | fi, fk, (p, q) :: l => oneW b fi fk p q ++ winF a b (p + 1) (q + 1) l
/-- Edits that make b of a, from places on: how many numbers stay. -/
def Makes (a b : List Int) : Nat → Nat → List S43 → Nat → Prop
  | i, k, [], s => i ≤ a.length ∧ k ≤ b.length ∧ a.drop i = b.drop k ∧ s = a.length - i
  | i, k, e :: l, s => ∃ (p t q r s' : Nat), e.f0 = (p : Int) ∧ e.f1 = (t : Int) ∧ i ≤ p ∧ p ≤ t ∧ t ≤ a.length ∧ k ≤ q ∧ q ≤ r ∧ r ≤ b.length ∧ cutB a i p = cutB b k q ∧ e.f2 = cutB b q r ∧ Makes a b t r l s' ∧ s = s' + (p - i)
end Go.Proofs.Ytphdbombgljamaa.Df
