import Derived.Test.YtkffhgiiejbnaaaGreatQAid
set_option linter.unusedVariables false
set_option linter.unusedSimpArgs false
namespace Go.Proofs.YtkffhgiiejbnaaaGreat.Hq
set_option linter.unusedVariables false
set_option linter.unusedSimpArgs false
structure Th (α : Type) where
  r : Int
  p : Int
  t : Int
  x : α
variable {α : Type}
def lessT (a b : Th α) : Bool := if a.r ≠ b.r then decide (a.r < b.r) else if a.p ≠ b.p then decide (a.p < b.p) else decide (a.t < b.t)
theorem less_iff (a b : Th α) : lessT a b = true ↔ a.r < b.r ∨ (a.r = b.r ∧ (a.p < b.p ∨ (a.p = b.p ∧ a.t < b.t))) := by
  unfold lessT; split
  · simp; omega
  · split
    · simp; omega
    · simp; omega
def Le (a b : Th α) : Prop := lessT b a = false
theorem le_iff (a b : Th α) : Le a b ↔ ¬ (b.r < a.r ∨ (b.r = a.r ∧ (b.p < a.p ∨ (b.p = a.p ∧ b.t < a.t)))) := by
  unfold Le; rw [← less_iff]; simp
theorem Le.refl (a : Th α) : Le a a := by rw [le_iff]; omega
theorem Le.trans {a b c : Th α} (h : Le a b) (k : Le b c) : Le a c := by rw [le_iff] at *; omega
theorem Le.of_less {a b : Th α} (h : lessT a b = true) : Le a b := by rw [less_iff] at h; rw [le_iff]; omega
def swapL (l : List (Th α)) (i k : Nat) : List (Th α) := if h : i < l.length ∧ k < l.length then (l.set i (l[k]'h.2)).set k (l[i]'h.1) else l
theorem swap_len (l : List (Th α)) (i k : Nat) : (swapL l i k).length = l.length := by unfold swapL; split <;> simp
theorem swap_get {l : List (Th α)} {i k : Nat} (hi : i < l.length) (hk : k < l.length) (j : Nat) : (swapL l i k)[j]? = if j = k then l[i]? else if j = i then l[k]? else l[j]? := by
  unfold swapL
  simp only [hi, hk, and_self, dite_true]
  rw [List.getElem?_set, List.getElem?_set]
  by_cases e : k = j
  · subst e; simp [hi, hk]
  · rw [if_neg e, if_neg (Ne.symm e)]
    by_cases e2 : i = j
    · subst e2; simp [hi, hk]
    · rw [if_neg e2, if_neg (Ne.symm e2)]
theorem swap_perm {l : List (Th α)} {i k : Nat} : (swapL l i k).Perm l := by
  unfold swapL
  split
  · rename_i h
    exact List.set_set_perm h.1 h.2
  · exact List.Perm.refl _
def Rel (l : List (Th α)) (i j : Nat) : Prop := ∀ x y, l[i]? = some x → l[j]? = some y → Le x y
theorem Rel.trans {l : List (Th α)} {i j k : Nat} (hj : j < l.length) (h : Rel l i j) (h2 : Rel l j k) : Rel l i k := fun x y hx hy => (h x _ hx (List.getElem?_eq_getElem hj)).trans (h2 _ y (List.getElem?_eq_getElem hj) hy)
theorem Rel.refl (l : List (Th α)) (i : Nat) : Rel l i i := fun x y hx hy => by rw [hx] at hy; injection hy with h; subst h; exact Le.refl _
theorem Rel.out {l : List (Th α)} {i j : Nat} (h : l.length ≤ j) : Rel l i j := fun x y hx hy => by rw [List.getElem?_eq_none h] at hy; cases hy
def Heap (l : List (Th α)) : Prop := ∀ j, 0 < j → Rel l ((j - 1) / 2) j
def UpInv (l : List (Th α)) (k : Nat) : Prop := (∀ j, 0 < j → j ≠ k → Rel l ((j - 1) / 2) j) ∧ (∀ c, 0 < c → (c - 1) / 2 = k → 0 < k → Rel l ((k - 1) / 2) c)
theorem up_done {l : List (Th α)} {k : Nat} (h : UpInv l k) (hk : k = 0 ∨ Rel l ((k - 1) / 2) k) : Heap l := fun j hj => by
  by_cases e : j = k
  · subst e
    rcases hk with hk | hk
    · omega
    · exact hk
  · exact h.1 j hj e
theorem up_step {l : List (Th α)} {k : Nat} (h : UpInv l k) (hk : k < l.length) (h0 : 0 < k) (hl : Rel l k ((k - 1) / 2)) : UpInv (swapL l k ((k - 1) / 2)) ((k - 1) / 2) := by
  have ho : (k - 1) / 2 < l.length := by omega
  have hne : (k - 1) / 2 ≠ k := by omega
  refine ⟨fun j hj hjo => ?_, fun c hc hco ho0 => ?_⟩
  · intro x y hx hy
    rw [swap_get hk ho] at hx hy
    by_cases e1 : j = k
    · subst e1
      rw [if_pos rfl] at hx
      rw [if_neg (Ne.symm hne), if_pos rfl] at hy
      exact hl x y hx hy
    · rw [if_neg hjo, if_neg e1] at hy
      by_cases e2 : (j - 1) / 2 = (k - 1) / 2
      · rw [if_pos e2] at hx
        have h1 := h.1 j hj e1
        rw [e2] at h1
        exact (hl.trans ho h1) x y hx hy
      · rw [if_neg e2] at hx
        by_cases e3 : (j - 1) / 2 = k
        · rw [if_pos e3] at hx
          exact h.2 j hj e3 h0 x y hx hy
        · rw [if_neg e3] at hx
          exact h.1 j hj e1 x y hx hy
  · intro x y hx hy
    rw [swap_get hk ho] at hx hy
    have e0 : ((k - 1) / 2 - 1) / 2 ≠ (k - 1) / 2 := by omega
    have e1 : ((k - 1) / 2 - 1) / 2 ≠ k := by omega
    rw [if_neg e0, if_neg e1] at hx
    have hg := h.1 ((k - 1) / 2) ho0 hne
    by_cases e2 : c = k
    · subst e2
      rw [if_neg (Ne.symm hne), if_pos rfl] at hy
      exact hg x y hx hy
    · have e3 : c ≠ (k - 1) / 2 := by omega
      rw [if_neg e3, if_neg e2] at hy
      have h1 := h.1 c hc e2
      rw [hco] at h1
      exact (hg.trans ho h1) x y hx hy
theorem push_inv {l : List (Th α)} {x : Th α} (h : Heap l) : UpInv (l ++ [x]) l.length := by
  refine ⟨fun j hj hjk a b ha hb => ?_, fun c hc hck hk a b ha hb => ?_⟩
  · have hjl : j < l.length := by
      rcases Nat.lt_or_ge j l.length with h | h
      · exact h
      · rw [List.getElem?_eq_none (by simp; omega)] at hb; cases hb
    rw [List.getElem?_append_left hjl] at hb
    rw [List.getElem?_append_left (by omega)] at ha
    exact h j hj a b ha hb
  · rw [List.getElem?_eq_none (by simp; omega)] at hb; cases hb
def DownInv (l : List (Th α)) (k : Nat) : Prop := (∀ j, 0 < j → (j - 1) / 2 ≠ k → Rel l ((j - 1) / 2) j) ∧ (∀ c, 0 < c → (c - 1) / 2 = k → 0 < k → Rel l ((k - 1) / 2) c)
def pickF (l : List (Th α)) (k m : Nat) : Nat := match l[k]?, l[m]? with
  | some x, some y => if lessT x y = true then k else m
  | _, _ => m
theorem pick_spec {l : List (Th α)} {k m : Nat} (hm : m < l.length) : pickF l k m < l.length ∧ (pickF l k m = k ∨ pickF l k m = m) ∧ Rel l (pickF l k m) k ∧ Rel l (pickF l k m) m := by
  unfold pickF
  by_cases hk : k < l.length
  · rw [List.getElem?_eq_getElem hk, List.getElem?_eq_getElem hm]
    by_cases hl : lessT l[k] l[m] = true
    · simp only [hl, if_true]
      refine ⟨hk, .inl trivial, Rel.refl _ _, fun x y hx hy => ?_⟩
      rw [List.getElem?_eq_getElem hk] at hx
      rw [List.getElem?_eq_getElem hm] at hy
      injection hx with hx; injection hy with hy; subst hx; subst hy
      exact Le.of_less hl
    · have hl' := Bool.eq_false_iff.2 hl
      simp only [hl', Bool.false_eq_true, if_false]
      refine ⟨hm, .inr trivial, fun x y hx hy => ?_, Rel.refl _ _⟩
      rw [List.getElem?_eq_getElem hm] at hx
      rw [List.getElem?_eq_getElem hk] at hy
      injection hx with hx; injection hy with hy; subst hx; subst hy
      exact hl'
  · rw [List.getElem?_eq_none (by omega)]
    exact ⟨hm, .inr rfl, Rel.out (by omega), Rel.refl _ _⟩
def leastF (l : List (Th α)) (i : Nat) : Nat := pickF l (2 * i + 2) (pickF l (2 * i + 1) i)
theorem least_spec {l : List (Th α)} {i : Nat} (hi : i < l.length) : leastF l i < l.length ∧ (leastF l i = i ∨ leastF l i = 2 * i + 1 ∨ leastF l i = 2 * i + 2) ∧ Rel l (leastF l i) i ∧ Rel l (leastF l i) (2 * i + 1) ∧ Rel l (leastF l i) (2 * i + 2) := by
  obtain ⟨a1, a2, a3, a4⟩ := pick_spec (k := 2 * i + 1) hi
  obtain ⟨b1, b2, b3, b4⟩ := pick_spec (k := 2 * i + 2) a1
  refine ⟨b1, ?_, b4.trans a1 a4, b4.trans a1 a3, b3⟩
  show pickF l (2 * i + 2) (pickF l (2 * i + 1) i) = _ ∨ _
  rcases b2 with b2 | b2
  · exact .inr (.inr b2)
  · rcases a2 with a2 | a2
    · exact .inr (.inl (b2.trans a2))
    · exact .inl (b2.trans a2)
theorem down_done {l : List (Th α)} {k : Nat} (h : DownInv l k) (h1 : Rel l k (2 * k + 1)) (h2 : Rel l k (2 * k + 2)) : Heap l := fun j hj => by
  by_cases e : (j - 1) / 2 = k
  · rcases (by omega : j = 2 * k + 1 ∨ j = 2 * k + 2) with e1 | e1
    · rw [e, e1]; exact h1
    · rw [e, e1]; exact h2
  · exact h.1 j hj e
theorem down_step {l : List (Th α)} {k m : Nat} (h : DownInv l k) (hk : k < l.length) (hm : m < l.length) (hmk : m = 2 * k + 1 ∨ m = 2 * k + 2) (h0 : Rel l m k) (h1 : Rel l m (2 * k + 1)) (h2 : Rel l m (2 * k + 2)) : DownInv (swapL l k m) m := by
  have hne : m ≠ k := by omega
  refine ⟨fun j hj hjo => ?_, fun c hc hco hm0 => ?_⟩
  · intro x y hx hy
    rw [swap_get hk hm] at hx hy
    rw [if_neg hjo] at hx
    by_cases e1 : (j - 1) / 2 = k
    · rw [if_pos e1] at hx
      by_cases e2 : j = m
      · subst e2
        rw [if_pos rfl] at hy
        exact h0 x y hx hy
      · have e3 : j ≠ k := by omega
        rw [if_neg e2, if_neg e3] at hy
        rcases (by omega : j = 2 * k + 1 ∨ j = 2 * k + 2) with e4 | e4
        · subst e4; exact h1 x y hx hy
        · subst e4; exact h2 x y hx hy
    · rw [if_neg e1] at hx
      by_cases e2 : j = m
      · omega
      · rw [if_neg e2] at hy
        by_cases e3 : j = k
        · subst e3
          rw [if_pos rfl] at hy
          exact h.2 m (by omega) (by omega) hj x y hx hy
        · rw [if_neg e3] at hy
          exact h.1 j hj e1 x y hx hy
  · intro x y hx hy
    rw [swap_get hk hm] at hx hy
    have e1 : (m - 1) / 2 = k := by omega
    have e2 : k ≠ m := by omega
    rw [e1, if_neg e2, if_pos rfl] at hx
    have e3 : c ≠ m := by omega
    have e4 : c ≠ k := by omega
    rw [if_neg e3, if_neg e4] at hy
    have := h.1 c hc (by omega)
    rw [hco] at this
    exact this x y hx hy
def downF : Nat → List (Th α) → Nat → List (Th α)
  | 0, l, _ => l
  | f + 1, l, k => if leastF l k = k then l else downF f (swapL l k (leastF l k)) (leastF l k)
theorem downF_perm : ∀ (f : Nat) (l : List (Th α)) (k : Nat), (downF f l k).Perm l
  | 0, l, k => List.Perm.refl _
  | f + 1, l, k => by
    unfold downF
    split
    · exact List.Perm.refl _
    · exact (downF_perm f _ _).trans swap_perm
theorem heap_least {l : List (Th α)} (h : Heap l) : ∀ j, Rel l 0 j := by
  intro j
  induction j using Nat.strongRecOn with
  | ind j ih =>
    by_cases e : j = 0
    · subst e; exact Rel.refl _ _
    · by_cases hj : j < l.length
      · exact (ih ((j - 1) / 2) (by omega)).trans (by omega) (h j (by omega))
      · exact Rel.out (by omega)
def popF (l : List (Th α)) : List (Th α) := downF l.length ((swapL l 0 (l.length - 1)).take (l.length - 1)) 0
theorem pop_inv {l : List (Th α)} (h : Heap l) (hl : 0 < l.length) : DownInv ((swapL l 0 (l.length - 1)).take (l.length - 1)) 0 := by
  refine ⟨fun j hj hjo => ?_, fun c hc hco h0 => by omega⟩
  intro x y hx hy
  by_cases hjl : j < l.length - 1
  · rw [List.getElem?_take_of_lt (by omega), swap_get hl (by omega)] at hx hy
    rw [if_neg (by omega), if_neg (by omega)] at hx hy
    exact h j hj x y hx hy
  · rw [List.getElem?_eq_none (by rw [List.length_take, swap_len]; omega)] at hy; cases hy
theorem popF_perm {l : List (Th α)} {x : Th α} (hx : l[0]? = some x) : (x :: popF l).Perm l := by
  have hl : 0 < l.length := by rcases Nat.eq_zero_or_pos l.length with h | h; rw [List.getElem?_eq_none (by omega)] at hx; cases hx; exact h
  have h1 : (popF l).Perm ((swapL l 0 (l.length - 1)).take (l.length - 1)) := downF_perm _ _ _
  refine (List.Perm.cons x h1).trans ?_
  have h2 : (swapL l 0 (l.length - 1)) = (swapL l 0 (l.length - 1)).take (l.length - 1) ++ [x] := by
    have hd := List.take_append_drop (l.length - 1) (swapL l 0 (l.length - 1))
    have hg : (swapL l 0 (l.length - 1)).drop (l.length - 1) = [x] := by
      have hlast : (swapL l 0 (l.length - 1))[l.length - 1]? = some x := by
        rw [swap_get hl (by omega), if_pos rfl]; exact hx
      have hlt : l.length - 1 < (swapL l 0 (l.length - 1)).length := by rw [swap_len]; omega
      rw [List.drop_eq_getElem_cons hlt, List.drop_eq_nil_of_le (by rw [swap_len]; omega)]
      rw [List.getElem?_eq_getElem hlt] at hlast
      injection hlast with hlast
      rw [hlast]
    rw [hg] at hd
    exact hd.symm
  have h3 : (x :: (swapL l 0 (l.length - 1)).take (l.length - 1)).Perm (swapL l 0 (l.length - 1)) := by
    conv => rhs; rw [h2]
    exact (List.perm_append_singleton x _).symm
  exact h3.trans swap_perm
end Go.Proofs.YtkffhgiiejbnaaaGreat.Hq
