/- Edits that make one list of another one: plain; no condition. -/
import Derived.Test.YtphdbombgljamaaDiffA
import Derived.Test.YtphdbombgljamaaRfx6
namespace Go.Proofs.Ytphdbombgljamaa.Df
open Go.RowKit Go.Proofs.YtphdbombgljamaaW.PrintWords Go.Proofs.YtphdbombgljamaaW.PrintLast Go.Proofs.YtphdbombgljamaaW.PrintMore Go.Proofs.Ytphdbombgljamaa.Rf Go.Proofs.Ytphdbombgljamaa.Aid
set_option linter.unusedVariables false
set_option linter.unusedSimpArgs false

theorem cutB_len {b : List Int} {i j : Nat} (h : j ≤ b.length) : (cutB b i j).length = j - i := by simp [cutB]; omega
theorem cutB_app {b : List Int} {i j k : Nat} (h1 : i ≤ j) (h2 : j ≤ k) : cutB b i j ++ cutB b j k = cutB b i k := by
  unfold cutB
  apply List.ext_getElem?
  intro n
  simp only [List.getElem?_append, List.getElem?_drop, List.getElem?_take, List.length_drop, List.length_take]
  grind
theorem cutB_all {b : List Int} {i : Nat} : cutB b i b.length = b.drop i := by unfold cutB; rw [List.take_length]
theorem cutB_zero {b : List Int} {i : Nat} : cutB b 0 i = b.take i := by unfold cutB; rfl
theorem cutB_same {b : List Int} {i : Nat} : cutB b i i = [] := by unfold cutB; simp
theorem cutB_one {b : List Int} {i : Nat} (h : i < b.length) : cutB b i (i + 1) = [b[i]] := by
  unfold cutB
  rw [List.drop_take, List.drop_eq_getElem_cons h, Nat.add_sub_cancel_left]
  rfl
theorem Makes.le {a b : List Int} : ∀ {l : List S43} {i k s : Nat}, Makes a b i k l s → i ≤ a.length ∧ k ≤ b.length
  | [], _, _, _, h => ⟨h.1, h.2.1⟩
  | e :: l, i, k, s, h => by obtain ⟨p, t, q, r, s', _, _, h1, h2, h3, h4, h5, h6, _⟩ := h; omega
theorem oneW_cs (b : List Int) {fi fk i k : Nat} (h1 : fi ≤ i) (h2 : fk ≤ k) : (i = fi ∧ k = fk ∧ oneW b fi fk i k = []) ∨ ((fi < i ∨ (fi = i ∧ fk < k)) ∧ oneW b fi fk i k = [⟨fi, i, cutB b fk k⟩]) := by
  by_cases h : i = fi ∧ k = fk
  · exact .inl ⟨h.1, h.2, by rw [h.1, h.2, oneW_same]⟩
  · exact .inr ⟨by omega, oneW_other b h⟩
theorem win_makes (a b : List Int) : ∀ (ps : List (Nat × Nat)) (i0 k0 fi fk : Nat), Up a b fi fk ps → i0 ≤ fi → k0 ≤ fk → cutB a i0 fi = cutB b k0 fk → Makes a b i0 k0 (winF a b fi fk ps) ((fi - i0) + ps.length)
  | [], i0, k0, fi, fk, hu, h1, h2, he => by
    have hi : fi ≤ a.length := hu.1
    have hk : fk ≤ b.length := hu.2
    have hw : winF a b fi fk [] = oneW b fi fk a.length b.length := rfl
    rw [hw]
    rcases oneW_cs b hi hk with ⟨e1, e2, e3⟩ | ⟨e1, e2⟩
    · rw [e3]
      subst e1; subst e2
      exact ⟨by omega, by omega, by rw [← cutB_all, ← cutB_all]; exact he, by simp⟩
    · rw [e2]
      refine ⟨fi, a.length, fk, b.length, 0, rfl, rfl, h1, hi, Nat.le_refl _, h2, hk, Nat.le_refl _, he, rfl, ⟨Nat.le_refl _, Nat.le_refl _, by simp, by simp⟩, by simp⟩
  | (p, q) :: ps, i0, k0, fi, fk, hu, h1, h2, he => by
    obtain ⟨u1, u2, ⟨u3, u4, u5⟩, u6⟩ := hu
    have hw : winF a b fi fk ((p, q) :: ps) = oneW b fi fk p q ++ winF a b (p + 1) (q + 1) ps := rfl
    rw [hw]
    rcases oneW_cs b u1 u2 with ⟨e1, e2, e3⟩ | ⟨e1, e2⟩
    · rw [e3]
      subst e1; subst e2
      have := win_makes a b ps i0 k0 (p + 1) (q + 1) u6 (by omega) (by omega) (by
        rw [← cutB_app (i := i0) (j := p) (k := p + 1) (by omega) (by omega), ← cutB_app (i := k0) (j := q) (k := q + 1) (by omega) (by omega), he, cutB_one u3, cutB_one u4, u5])
      have e : (p + 1 - i0) + ps.length = (p - i0) + ((p, q) :: ps).length := by simp; omega
      rw [e] at this
      exact this
    · rw [e2]
      have := win_makes a b ps p q (p + 1) (q + 1) u6 (by omega) (by omega) (by rw [cutB_one u3, cutB_one u4, u5])
      exact ⟨fi, p, fk, q, _, rfl, rfl, h1, u1, by omega, h2, u2, by omega, he, rfl, this, by simp; omega⟩
/-- how many stay, of the windows -/
def comP (a b : List Int) : Nat := if a.length ≤ 500 ∧ b.length ≤ 500 then L a b 0 0 else if a = b then a.length else 0
theorem makes_win (a b : List Int) : Makes a b 0 0 (winP a b) (comP a b) := by
  unfold winP comP
  by_cases h : a.length ≤ 500 ∧ b.length ≤ 500
  · rw [if_pos h, if_pos h]
    have := win_makes a b (pairs a b) 0 0 0 0 (go_up a b _ 0 0 (by omega) (by omega)) (Nat.le_refl _) (Nat.le_refl _) rfl
    rw [Nat.sub_self, Nat.zero_add] at this
    unfold pairs at this ⊢
    rw [go_count a b _ 0 0 (by omega) (by omega) (by omega)] at this
    exact this
  · rw [if_neg h, if_neg h]
    by_cases e : a = b
    · rw [if_pos e, if_pos e]
      subst e
      exact ⟨by omega, by omega, rfl, by simp⟩
    · rw [if_neg e, if_neg e]
      exact ⟨0, a.length, 0, b.length, 0, rfl, rfl, by omega, by omega, by omega, by omega, by omega, by omega, rfl, by rw [cutB_zero, List.take_length], ⟨by omega, by omega, by simp, by simp⟩, by simp⟩
theorem win_len (a b : List Int) (ha : a.length ≤ 700) : (winP a b).length ≤ 701 := by
  unfold winP
  split
  · have := winF_len a b (pairs a b) 0 0 0 0 (go_up a b _ 0 0 (by omega) (by omega))
    omega
  · split <;> simp
theorem rd_mid (pre : List S43) (e : S43) (l : List S43) : rd_T43 (pre ++ e :: l) (pre.length : Int) = e := by
  unfold rd_T43
  rw [Int.toNat_natCast, List.getD_eq_getElem?_getD]
  simp
theorem right_run (a b : List Int) (es : List S43) (hn : es.length ≤ 2000) : ∀ (l pre : List S43) (i k s K : Nat), Makes a b i k l s → es = pre ++ l → l.length + 1 ≤ K → diff_right.l0 K (a.length : Int) (i : Int) es (es.length : Int) (pre.length : Int) = some true
  | [], pre, i, k, s, K, hm, he, hK => by
    obtain ⟨K, rfl⟩ : ∃ m, K = m + 1 := ⟨K - 1, by omega⟩
    have : es.length = pre.length := by rw [he]; simp
    simp only [diff_right.l0]
    rw [if_neg (by omega)]
  | e :: l, pre, i, k, s, K, hm, he, hK => by
    obtain ⟨K, rfl⟩ : ∃ m, K = m + 1 := ⟨K - 1, by omega⟩
    have hl : es.length = pre.length + l.length + 1 := by rw [he]; simp; omega
    obtain ⟨p, t, q, r, s', e0, e1, h1, h2, h3, h4, h5, h6, _, _, hm', _⟩ := hm
    have hw : wrap64 ((pre.length : Int) + 1) = ((pre ++ [e]).length : Int) := (w64d (by omega) (by omega)).trans (by simp)
    simp only [diff_right.l0, hw]
    have hrd : rd_T43 es (pre.length : Int) = e := by rw [he]; exact rd_mid pre e l
    rw [hrd, e0, e1, if_pos (by omega), if_pos (by omega), if_pos (by omega), if_neg (by omega), if_neg (by omega), if_neg (by omega)]
    exact right_run a b es hn l (pre ++ [e]) t r s' K hm' (by rw [he]; simp) (by simp only [List.length_cons] at hK; omega)
theorem right_some (a b : List Int) (es : List S43) (hn : es.length ≤ 2000) {s : Nat} (hm : Makes a b 0 0 es s) (K : Nat) (hK : es.length + 1 ≤ K) : diff_right.f K (a.length : Int) es = some true := right_run a b es hn es [] 0 0 s K hm rfl hK
theorem apply_run (a b : List Int) (es : List S43) (hn : es.length ≤ 2000) (hb : b.length ≤ 100000) (ha : a.length ≤ 100000) : ∀ (l pre : List S43) (i k s K : Nat), Makes a b i k l s → es = pre ++ l → l.length + 1 ≤ K → diff_Apply.l0 K a (b.take k) (i : Int) es (es.length : Int) (pre.length : Int) = some (b, 0)
  | [], pre, i, k, s, K, hm, he, hK => by
    obtain ⟨K, rfl⟩ : ∃ m, K = m + 1 := ⟨K - 1, by omega⟩
    have hl : es.length = pre.length := by rw [he]; simp
    obtain ⟨h1, h2, h3, h4⟩ := hm
    simp only [diff_Apply.l0]
    rw [if_neg (by omega), if_pos (by omega), if_pos (by omega), Int.toNat_natCast, if_pos (by rw [List.length_take, List.length_drop]; omega), h3, List.take_append_drop]
  | e :: l, pre, i, k, s, K, hm, he, hK => by
    obtain ⟨K, rfl⟩ : ∃ m, K = m + 1 := ⟨K - 1, by omega⟩
    have hl : es.length = pre.length + l.length + 1 := by rw [he]; simp; omega
    obtain ⟨p, t, q, r, s', e0, e1, h1, h2, h3, h4, h5, h6, h7, h8, hm', _⟩ := hm
    have hw : wrap64 ((pre.length : Int) + 1) = ((pre ++ [e]).length : Int) := (w64d (by omega) (by omega)).trans (by simp)
    have hrd : rd_T43 es (pre.length : Int) = e := by rw [he]; exact rd_mid pre e l
    simp only [diff_Apply.l0, hw]
    rw [hrd, e0, e1, if_pos (by omega), if_pos (by omega), if_pos (by omega), if_pos (by omega), if_pos (by omega), if_pos (by omega), Int.toNat_natCast, Int.toNat_natCast, h8]
    have hc : List.drop i (List.take p a) = cutB b k q := h7
    have hq : b.take k ++ cutB b k q = b.take q := by rw [← cutB_zero, cutB_app (by omega) h4, cutB_zero]
    have hr : b.take q ++ cutB b q r = b.take r := by rw [← cutB_zero, cutB_app (by omega) h5, cutB_zero]
    rw [hc, if_pos (by rw [List.length_take, cutB_len (by omega)]; omega), Option.bind_some, hq, if_pos (by rw [List.length_take, cutB_len (by omega)]; omega), hr]
    exact apply_run a b es hn hb ha l (pre ++ [e]) t r s' K hm' (by rw [he]; simp) (by simp only [List.length_cons] at hK; omega)
theorem apply_some (a b : List Int) (es : List S43) (hn : es.length ≤ 2000) (hb : b.length ≤ 100000) (ha : a.length ≤ 100000) {s : Nat} (hm : Makes a b 0 0 es s) (K : Nat) (hK : es.length + 1 ≤ K) : diff_Apply.f K a es = some (b, 0) := by
  unfold diff_Apply.f
  rw [right_some a b es hn hm K hK, Option.bind_some, if_pos rfl]
  exact apply_run a b es hn hb ha es [] 0 0 s K hm rfl hK
def costS : List S43 → Int
  | [] => 0
  | e :: l => (e.f1 - e.f0 + e.f2.length) + costS l
theorem makes_cost {a b : List Int} : ∀ {l : List S43} {i k s : Nat}, Makes a b i k l s → costS l = ((a.length : Int) - i) + ((b.length : Int) - k) - 2 * s ∧ 0 ≤ costS l
  | [], i, k, s, h => by
    obtain ⟨h1, h2, h3, h4⟩ := h
    have : (a.drop i).length = (b.drop k).length := by rw [h3]
    rw [List.length_drop, List.length_drop] at this
    unfold costS
    omega
  | e :: l, i, k, s, h => by
    obtain ⟨p, t, q, r, s', e0, e1, h1, h2, h3, h4, h5, h6, h7, h8, hm', h9⟩ := h
    obtain ⟨c1, c2⟩ := makes_cost hm'
    have hl : (cutB a i p).length = (cutB b k q).length := by rw [h7]
    rw [cutB_len (by omega), cutB_len (by omega)] at hl
    have h8l : e.f2.length = r - q := by rw [h8, cutB_len (by omega)]
    unfold costS
    rw [e0, e1, h8l]
    omega
theorem cost_run (a b : List Int) (es : List S43) (hn : es.length ≤ 2000) (hb : b.length ≤ 100000) (ha : a.length ≤ 100000) : ∀ (l pre : List S43) (i k s K : Nat) (n : Int), Makes a b i k l s → es = pre ++ l → l.length + 1 ≤ K → 0 ≤ n → n ≤ i + k → diff_Cost.l0 K n es (es.length : Int) (pre.length : Int) = some (n + costS l)
  | [], pre, i, k, s, K, n, hm, he, hK, h0, h1 => by
    obtain ⟨K, rfl⟩ : ∃ m, K = m + 1 := ⟨K - 1, by omega⟩
    have hl : es.length = pre.length := by rw [he]; simp
    simp only [diff_Cost.l0]
    rw [if_neg (by omega)]
    simp [costS]
  | e :: l, pre, i, k, s, K, n, hm, he, hK, h0, h1 => by
    obtain ⟨K, rfl⟩ : ∃ m, K = m + 1 := ⟨K - 1, by omega⟩
    have hl : es.length = pre.length + l.length + 1 := by rw [he]; simp; omega
    obtain ⟨p, t, q, r, s', e0, e1, g1, g2, g3, g4, g5, g6, g7, g8, hm', _⟩ := hm
    have hw : wrap64 ((pre.length : Int) + 1) = ((pre ++ [e]).length : Int) := (w64d (by omega) (by omega)).trans (by simp)
    have hrd : rd_T43 es (pre.length : Int) = e := by rw [he]; exact rd_mid pre e l
    have h8l : e.f2.length = r - q := by rw [g8, cutB_len (by omega)]
    simp only [diff_Cost.l0, hw]
    rw [hrd, e0, e1, h8l, if_pos (by omega), if_pos (by omega), if_pos (by omega), w64d (i := (t : Int) - p) (by omega) (by omega), w64d (i := (t : Int) - p + ((r - q : Nat) : Int)) (by omega) (by omega), w64d (by omega) (by omega)]
    rw [cost_run a b es hn hb ha l (pre ++ [e]) t r s' K _ hm' (by rw [he]; simp) (by simp only [List.length_cons] at hK; omega) (by omega) (by omega)]
    have hcs : costS (e :: l) = (e.f1 - e.f0 + e.f2.length) + costS l := rfl
    rw [hcs, e0, e1, h8l]
    congr 1
    omega
theorem cost_some (a b : List Int) (es : List S43) (hn : es.length ≤ 2000) (hb : b.length ≤ 100000) (ha : a.length ≤ 100000) {s : Nat} (hm : Makes a b 0 0 es s) (K : Nat) (hK : es.length + 1 ≤ K) : diff_Cost.f K es = some ((a.length : Int) + b.length - 2 * s) := by
  unfold diff_Cost.f
  have := cost_run a b es hn hb ha es [] 0 0 s K 0 hm rfl hK (by omega) (by omega)
  refine this.trans ?_
  rw [(makes_cost hm).1]
  congr 1
  omega
/-- the edits that undo -/
def turnG (a : List Int) : Int → List S43 → List S43
  | _, [] => []
  | by_, e :: l => ⟨e.f0 + by_, e.f0 + by_ + e.f2.length, cutB a e.f0.toNat e.f1.toNat⟩ :: turnG a (by_ + (e.f2.length - (e.f1 - e.f0))) l
theorem turn_len (a : List Int) : ∀ (l : List S43) (n : Int), (turnG a n l).length = l.length
  | [], _ => rfl
  | e :: l, n => by simp [turnG, turn_len a l]
theorem turn_makes {a b : List Int} : ∀ {l : List S43} {i k s : Nat}, Makes a b i k l s → Makes b a k i (turnG a ((k : Int) - i) l) s
  | [], i, k, s, h => by
    obtain ⟨h1, h2, h3, h4⟩ := h
    have : (a.drop i).length = (b.drop k).length := by rw [h3]
    rw [List.length_drop, List.length_drop] at this
    exact ⟨h2, h1, h3.symm, by omega⟩
  | e :: l, i, k, s, h => by
    obtain ⟨p, t, q, r, s', e0, e1, h1, h2, h3, h4, h5, h6, h7, h8, hm', h9⟩ := h
    have hl : (cutB a i p).length = (cutB b k q).length := by rw [h7]
    rw [cutB_len (by omega), cutB_len (by omega)] at hl
    have h8l : e.f2.length = r - q := by rw [h8, cutB_len (by omega)]
    have ih := turn_makes hm'
    unfold turnG
    rw [e0, e1, h8l]
    have en : (k : Int) - i + (((r - q : Nat) : Int) - ((t : Int) - p)) = (r : Int) - t := by omega
    rw [en, Int.toNat_natCast, Int.toNat_natCast]
    exact ⟨q, r, p, t, s', by simp only []; omega, by simp only []; omega, h4, h5, h6, h1, h2, h3, h7.symm, rfl, ih, by omega⟩
end Go.Proofs.Ytphdbombgljamaa.Df
