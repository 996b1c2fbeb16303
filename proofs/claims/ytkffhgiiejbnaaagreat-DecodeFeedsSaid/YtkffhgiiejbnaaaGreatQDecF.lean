import Derived.Test.YtkffhgiiejbnaaaGreatQDecC
set_option linter.unusedVariables false
set_option linter.unusedSimpArgs false
namespace Go.Proofs.YtkffhgiiejbnaaaGreat.Dc
open Go.Shelf Go.RowKit Go.Proofs.YtkffhgiiejbnaaaGreatW.PrintWords Go.Proofs.YtkffhgiiejbnaaaGreatW.PrintLast Go.Proofs.YtkffhgiiejbnaaaGreatW.PrintMore Go.Proofs.YtkffhgiiejbnaaaGreat.Rf Go.Proofs.YtkffhgiiejbnaaaGreat.Aid Go.Proofs.YtkffhgiiejbnaaaGreat.Mp Go.Proofs.YtkffhgiiejbnaaaGreat.Hp Go.Proofs.YtkffhgiiejbnaaaGreat.Tk Go.Proofs.YtkffhgiiejbnaaaGreat.Vc
set_option linter.unusedVariables false
set_option linter.unusedSimpArgs false
set_option maxHeartbeats 400000
theorem bt_tail (s : ByteArray) (n j : Nat) (hn : n ≤ s.size) (hj : j < n) : bt (tailB s n) (j : Int) = bt s ((s.size - n + j : Nat) : Int) := by
  have h1 : j < (tailB s n).size := by rw [tailB_size hn]; exact hj
  have h2 : s.size - n + j < s.size := by omega
  unfold bt
  rw [Int.toNat_natCast, Int.toNat_natCast, dif_pos h1, dif_pos h2]
  congr 2
  simp only [tailB, ByteArray.getElem_extract]
theorem bt_ext1 (T : ByteArray) (i : Nat) (h : i + 1 < T.size) : bt (T.extract 1 T.size) (i : Int) = bt T ((i + 1 : Nat) : Int) := by
  have h1 : i < (T.extract 1 T.size).size := by rw [ByteArray.size_extract]; omega
  unfold bt
  rw [Int.toNat_natCast, Int.toNat_natCast, dif_pos h1, dif_pos h, ByteArray.getElem_extract]
  simp only [Nat.add_comm]
theorem holdsB_iff (s : ByteArray) (n : Nat) (h0 : 0 < n) (hn : n ≤ s.size) : holdsB s n = true ↔ ((n : Int) < ndI (bt s ((s.size - n : Nat) : Int)) ∧ ∀ j, 0 < j → j < n → bt s ((s.size - n + j : Nat) : Int) / 64 = 2) := by
  have hT := tailB_size hn
  have e0 : bt (tailB s n) 0 = bt s ((s.size - n : Nat) : Int) := by
    have h := bt_tail s n 0 hn h0
    rw [Nat.add_zero] at h
    exact h
  have hx : ∀ i, i < n - 1 → bt ((tailB s n).extract 1 (tailB s n).size) (i : Int) = bt s ((s.size - n + (i + 1) : Nat) : Int) := fun i hi => by
    rw [← bt_tail s n (i + 1) hn (by omega)]
    exact bt_ext1 _ i (by rw [hT]; omega)
  unfold holdsB goB
  rw [Bool.and_eq_true, decide_eq_true_eq, e0, List.all_eq_true]
  have hs : ((tailB s n).extract 1 (tailB s n).size).size = n - 1 := by rw [ByteArray.size_extract, hT]; omega
  rw [hs]
  constructor
  · rintro ⟨h1, h2⟩
    refine ⟨h1, fun j hj0 hjn => ?_⟩
    have := h2 (j - 1) (List.mem_range.2 (by omega))
    rw [decide_eq_true_eq, hx (j - 1) (by omega)] at this
    rw [show s.size - n + (j - 1 + 1) = s.size - n + j from by omega] at this
    exact this
  · rintro ⟨h1, h2⟩
    refine ⟨h1, fun i hi => ?_⟩
    have hi := List.mem_range.1 hi
    rw [decide_eq_true_eq, hx i hi]
    exact h2 (i + 1) (by omega) (by omega)
theorem heldN_spec (s : ByteArray) : ∀ N n, n ≤ N → (0 < n → holdsB s n = true) → (∀ m, n < m → m ≤ N → holdsB s m = false) → heldN s N = n
  | 0, n, h1, _, _ => by have : n = 0 := by omega
                         rw [this]; rfl
  | N + 1, n, h1, h2, h3 => by
    unfold heldN
    by_cases he : n = N + 1
    · rw [if_pos (he ▸ h2 (by omega)), he]
    · rw [if_neg (by rw [h3 (N + 1) (by omega) (Nat.le_refl _)]; decide)]
      exact heldN_spec s N n (by omega) h2 (fun m a b => h3 m a (by omega))
theorem heldN_holds (s : ByteArray) : ∀ N, 0 < heldN s N → holdsB s (heldN s N) = true
  | 0, h => by simp [heldN] at h
  | N + 1, h => by
    unfold heldN at h ⊢
    split
    · rename_i hh; exact hh
    · rename_i hh; rw [if_neg hh] at h; exact heldN_holds s N h
theorem heldN_great (s : ByteArray) : ∀ N m, heldN s N < m → m ≤ N → holdsB s m = false
  | 0, m, h1, h2 => by omega
  | N + 1, m, h1, h2 => by
    unfold heldN at h1
    split at h1
    · omega
    · rename_i hh
      by_cases he : m = N + 1
      · rw [he]; simpa using hh
      · exact heldN_great s N m h1 (by omega)
theorem bt_app_r (a t : ByteArray) (j : Nat) : bt (a ++ t) ((a.size + j : Nat) : Int) = bt t (j : Int) := by
  unfold bt
  rw [Int.toNat_natCast, Int.toNat_natCast]
  by_cases h : j < t.size
  · rw [dif_pos (by rw [ByteArray.size_append]; omega), dif_pos h]
    congr 2
    rw [ByteArray.getElem_append_right (by omega)]
    congr 1
    omega
  · rw [dif_neg (by rw [ByteArray.size_append]; omega), dif_neg h]
theorem bt_app_l (a t : ByteArray) (j : Nat) (h : j < a.size) : bt (a ++ t) (j : Int) = bt a (j : Int) := by
  unfold bt
  rw [Int.toNat_natCast, dif_pos (by rw [ByteArray.size_append]; omega), dif_pos h]
  congr 2
  rw [ByteArray.getElem_append_left h]
theorem heldF_cat (all t : ByteArray) : heldF (all ++ t) = heldF (tailB all (heldF all) ++ t) := by
  have hle := heldF_le all
  have hts := tailB_size hle
  have hN3 : heldF all ≤ 3 := Nat.le_trans (heldN_le all _) (Nat.min_le_left _ _)
  have hsz : (all ++ t).size = all.size + t.size := ByteArray.size_append
  have hsz2 : (tailB all (heldF all) ++ t).size = heldF all + t.size := by rw [ByteArray.size_append, hts]
  have hsame : ∀ n, 0 < n → n ≤ heldF all + t.size → (holdsB (all ++ t) n = true ↔ holdsB (tailB all (heldF all) ++ t) n = true) := fun n h0 hn => by
    have hb : ∀ j, j < n → bt (all ++ t) (((all ++ t).size - n + j : Nat) : Int) = bt (tailB all (heldF all) ++ t) (((tailB all (heldF all) ++ t).size - n + j : Nat) : Int) := fun j hj => by
      rw [hsz, hsz2]
      by_cases hc : t.size + j < n
      · have e1 : all.size + t.size - n + j < all.size := by omega
        have e2 : heldF all + t.size - n + j < (tailB all (heldF all)).size := by rw [hts]; omega
        rw [bt_app_l _ _ _ e1, bt_app_l _ _ _ e2, bt_tail all (heldF all) _ hle (by omega)]
        congr 2
        omega
      · have e1 : all.size + t.size - n + j = all.size + (t.size + j - n) := by omega
        have e2 : heldF all + t.size - n + j = (tailB all (heldF all)).size + (t.size + j - n) := by rw [hts]; omega
        rw [e1, e2, bt_app_r, bt_app_r]
    rw [holdsB_iff _ n h0 (by rw [hsz]; omega), holdsB_iff _ n h0 (by rw [hsz2]; omega)]
    have hb0 := hb 0 h0
    simp only [Nat.add_zero] at hb0
    rw [hb0]
    constructor
    · rintro ⟨h1, h2⟩; exact ⟨h1, fun j a b => by rw [← hb j b]; exact h2 j a b⟩
    · rintro ⟨h1, h2⟩; exact ⟨h1, fun j a b => by rw [hb j b]; exact h2 j a b⟩
  have hmore : ∀ n, heldF all + t.size < n → n ≤ min 3 (all ++ t).size → holdsB (all ++ t) n = false := fun n h1 h2 => by
    rw [Bool.eq_false_iff]
    intro hh
    have hn3 : n ≤ 3 := Nat.le_trans h2 (Nat.min_le_left _ _)
    have hns : n ≤ all.size + t.size := by rw [← hsz]; exact Nat.le_trans h2 (Nat.min_le_right _ _)
    obtain ⟨a1, a2⟩ := (holdsB_iff _ n (by omega) (by rw [hsz]; exact hns)).1 hh
    have hm : holdsB all (n - t.size) = true := by
      rw [holdsB_iff all (n - t.size) (by omega) (by omega)]
      have e0 : all.size - (n - t.size) = all.size + t.size - n := by omega
      rw [hsz, bt_app_l _ _ _ (by omega)] at a1
      rw [e0]
      refine ⟨by omega, fun j b1 b2 => ?_⟩
      have := a2 j b1 (by omega)
      rw [hsz, bt_app_l _ _ _ (by omega)] at this
      exact this
    have := heldN_great all (min 3 all.size) (n - t.size) (by show heldF all < _; omega) (by omega)
    rw [hm] at this
    cases this
  have hfin := heldN_le (tailB all (heldF all) ++ t) (min 3 (tailB all (heldF all) ++ t).size)
  unfold heldF at hfin ⊢
  have hb2 : heldF (tailB all (heldF all) ++ t) ≤ heldF all + t.size := by rw [← hsz2]; exact heldF_le _
  refine heldN_spec (all ++ t) _ (heldF (tailB all (heldF all) ++ t)) ?_ ?_ ?_
  · have h1 := heldN_le (tailB all (heldF all) ++ t) (min 3 (tailB all (heldF all) ++ t).size)
    have h1 : heldF (tailB all (heldF all) ++ t) ≤ min 3 (tailB all (heldF all) ++ t).size := h1
    rw [hsz2] at h1
    rw [hsz]
    omega
  · intro h0
    exact (hsame _ h0 hb2).2 (heldN_holds _ _ h0)
  · intro m h1 h2
    by_cases hc : m ≤ heldF all + t.size
    · have h3 : holdsB (tailB all (heldF all) ++ t) m = false := heldN_great _ _ m h1 (by rw [hsz2]; rw [hsz] at h2; omega)
      rw [Bool.eq_false_iff] at h3 ⊢
      exact fun hh => h3 ((hsame m (by omega) hc).1 hh)
    · exact hmore m (by omega) h2
end Go.Proofs.YtkffhgiiejbnaaaGreat.Dc
