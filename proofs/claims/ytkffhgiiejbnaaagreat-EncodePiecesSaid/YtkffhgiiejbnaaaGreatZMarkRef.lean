import Derived.Test.YtkffhgiiejbnaaaGreatZSetF
import Derived.Test.YtkffhgiiejbnaaaGreatZ01
import Derived.Test.YtkffhgiiejbnaaaGreatZ02
set_option linter.unusedVariables false
set_option linter.unusedSimpArgs false
namespace Go.Proofs.YtkffhgiiejbnaaaGreat.Mk
open Go.RowKit YtkffhgiiejbnaaaGreatW.PrintWords YtkffhgiiejbnaaaGreatW.PrintLast YtkffhgiiejbnaaaGreatW.PrintMore Rf Aid Mp
theorem w64 {i : Int} (h0 : -9223372036854775808 ≤ i) (h : i ≤ 9223372036854775807) : wrap64 i = i := by unfold wrap64; omega
theorem rd_at {l : List Sp} {i : Nat} (h : i < l.length) : rd_T93 l (i : Int) = l[i] := by
 unfold rd_T93; rw [Int.toNat_natCast, List.getD_eq_getElem?_getD, List.getElem?_eq_getElem h]; rfl
def greatP (l : List Sp) : Bool := l.any (fun x => decide (100 < x.f1.size)) || decide (40 < l.length)
theorem great_run (l : List Sp) (hl : l.length ≤ 9223372036854775807) : ∀ (d k i : Nat), i ≤ l.length → l.length - i = d → d < k → ligatureref09_Great.l0 k l i = some ((l.drop i).any (fun x => decide (100 < x.f1.size)) || decide (40 < l.length))
 | 0, k, i, h0, h1, h2 => by
  obtain ⟨k, rfl⟩ : ∃ m, k = m + 1 := ⟨k - 1, by omega⟩
  simp only [ligatureref09_Great.l0]
  rw [if_neg (by omega), List.drop_eq_nil_of_le (by omega)]
  simp only [List.any_nil, Bool.false_or]
  congr 1; rw [decide_eq_decide]; omega
 | d + 1, k, i, h0, h1, h2 => by
  obtain ⟨k, rfl⟩ : ∃ m, k = m + 1 := ⟨k - 1, by omega⟩
  have hlt : i < l.length := by omega
  simp only [ligatureref09_Great.l0]
  rw [if_pos (by omega), if_pos (by omega), rd_at hlt, List.drop_eq_getElem_cons hlt, List.any_cons]
  by_cases hx : 100 < (l[i]).f1.size
  ·rw [if_pos (by omega)]; simp [hx]
  ·rw [if_neg (by omega), w64 (by omega) (by omega), show ((i : Int) + 1) = ((i + 1 : Nat) : Int) from by omega, great_run l hl d k (i + 1) (by omega) (by omega) (by omega)]
   simp [hx]
theorem great_some (l : List Sp) (hl : l.length ≤ 9223372036854775807) : ligatureref09_Great.f (l.length + 1) l = some (greatP l) := by
 unfold ligatureref09_Great.f
 exact (great_run l hl l.length (l.length + 1) 0 (by omega) (by omega) (by omega)).trans (by rw [List.drop_zero]; rfl)
theorem rdI {l : List Int} {i : Nat} (h : i < l.length) : rd l (i : Int) = l[i] := by
 unfold rd; rw [Int.toNat_natCast, List.getD_eq_getElem?_getD, List.getElem?_eq_getElem h]; rfl
theorem ints_run (a b : List Int) (hab : a.length = b.length) (hl : a.length ≤ 9223372036854775807) : ∀ (d k i : Nat), i ≤ a.length → a.length - i = d → d < k → ligatureref02_Ints.l0 k a b i = some (decide (a.drop i = b.drop i))
 | 0, k, i, h0, h1, h2 => by
  obtain ⟨k, rfl⟩ : ∃ m, k = m + 1 := ⟨k - 1, by omega⟩
  simp only [ligatureref02_Ints.l0]
  rw [if_neg (by omega), List.drop_eq_nil_of_le (by omega), List.drop_eq_nil_of_le (by omega)]; simp
 | d + 1, k, i, h0, h1, h2 => by
  obtain ⟨k, rfl⟩ : ∃ m, k = m + 1 := ⟨k - 1, by omega⟩
  have hlt : i < a.length := by omega
  have hlt' : i < b.length := by omega
  simp only [ligatureref02_Ints.l0]
  rw [if_pos (by omega), if_pos (by omega), if_pos (by omega), rdI hlt, rdI hlt', List.drop_eq_getElem_cons hlt, List.drop_eq_getElem_cons hlt']
  by_cases hx : a[i] = b[i]
  ·rw [if_pos hx, w64 (by omega) (by omega), show ((i : Int) + 1) = ((i + 1 : Nat) : Int) from by omega, ints_run a b hab hl d k (i + 1) (by omega) (by omega) (by omega)]
   congr 1; rw [decide_eq_decide, List.cons.injEq]; exact ⟨fun h => ⟨hx, h⟩, fun h => h.2⟩
  ·rw [if_neg hx]; congr 1; symm; rw [decide_eq_false_iff_not, List.cons.injEq]; exact fun h => hx h.1
theorem ints_some (a b : List Int) (hl : a.length ≤ 9223372036854775807) : ligatureref02_Ints.f (a.length + 1) a b = some (decide (a = b)) := by
 unfold ligatureref02_Ints.f
 by_cases h : a.length = b.length
 ·rw [if_pos (by omega)]
  exact (ints_run a b h hl a.length (a.length + 1) 0 (by omega) (by omega) (by omega)).trans (by rw [List.drop_zero, List.drop_zero])
 ·rw [if_neg (by omega)]; congr 1; symm; rw [decide_eq_false_iff_not]; intro e; exact h (by rw [e])
theorem bytes_ext {a b : ByteArray} (h : a.toList = b.toList) : a = b := by
 rw [ByteArray.toList_eq, ByteArray.toList_eq] at h
 cases a; cases b; congr; exact Array.toList_inj.1 h
def begP (s x : ByteArray) : Bool := decide (x.size ≤ s.size ∧ s.extract 0 x.size = x)
theorem begins_some (s x : ByteArray) : ligatureref09_begins.f s x = some (begP s x) := by
 unfold ligatureref09_begins.f begP
 by_cases h : x.size ≤ s.size
 ·rw [if_pos (by omega), if_pos (by omega), if_pos (by omega)]
  simp only [Int.toNat_natCast]
  congr 1
  by_cases e : s.extract 0 x.size = x
  ·rw [e]; simp [e, h]
  ·have : (s.extract 0 x.size).toList ≠ x.toList := fun q => e (bytes_ext q)
   simp [e, this]
 ·rw [if_neg (by omega)]; congr 1; symm; simp [h]
structure GoodS (S : List Sp) : Prop where
 good : ∀ x ∈ S, 0 ≤ x.f0 ∧ x.f0 ≤ 1073741824 ∧ 1 ≤ x.f1.size ∧ x.f1.size ≤ 64
 few : S.length ≤ 32
 apartI : (S.map (·.f0)).Nodup
 apartT : (S.map (·.f1)).Nodup
theorem SetAt.goodS {w : World} {p : Nat} {S : List Sp} (h : SetAt w p S) : GoodS S := ⟨h.good, h.few, h.apartI, h.apartT⟩
theorem beg_extract {s x : ByteArray} (h : begP s x = true) : x.size ≤ s.size ∧ s.extract 0 x.size = x := by unfold begP at h; exact of_decide_eq_true h
theorem idx_of {S : List Sp} (hS : GoodS S) {i : Nat} (hi : i < S.length) : idx S (S[i]).f1 = some i := by
 unfold idx
 rw [List.findIdx?_eq_some_iff_getElem]
 refine ⟨hi, by simp, fun j hj => ?_⟩
 simp only [decide_eq_true_eq]
 intro e
 have hn := hS.apartT
 rw [List.nodup_iff_pairwise_ne, List.pairwise_iff_getElem] at hn
 exact hn j i (by simp; omega) (by simpa using hi) hj (by simpa using e)
theorem atN_none {S : List Sp} (hS : GoodS S) {s : ByteArray} : ∀ {n : Nat}, n ≤ s.size → atN S s n = none → ∀ i (hi : i < S.length), (S[i]).f1.size ≤ n → begP s (S[i]).f1 = false
 | 0, _, _, i, hi, h => by have := (hS.good _ (List.getElem_mem hi)).2.2.1; omega
 | n + 1, hn, h, i, hi, hle => by
  rw [atN_succ] at h
  split at h
  ·rename_i h1; rw [h] at h1; simp at h1
  ·rename_i h1
   by_cases e : (S[i]).f1.size ≤ n
   ·exact atN_none hS (by omega) h i hi e
   ·have hz : (S[i]).f1.size = n + 1 := by omega
    cases hb : begP s (S[i]).f1 with
    | false => rfl
    | true =>
     have := (beg_extract hb).2
     rw [hz] at this
     rw [this, idx_of hS hi] at h1
     simp at h1
theorem atN_max {S : List Sp} (hS : GoodS S) {s : ByteArray} {j : Nat} : ∀ {n : Nat}, n ≤ s.size → atN S s n = some j → ∀ i (hi : i < S.length), (S[i]).f1.size ≤ n → begP s (S[i]).f1 = true → (S[i]).f1.size ≤ (rd_T93 S j).f1.size
 | 0, _, h, _, _, _, _ => by simp [atN] at h
 | n + 1, hn, h, i, hi, hle, hb => by
  rw [atN_succ] at h
  split at h
  ·have e := idx_spec h
   rw [e, ByteArray.size_extract]; omega
  ·rename_i h1
   by_cases e : (S[i]).f1.size ≤ n
   ·exact atN_max hS (by omega) h i hi e hb
   ·have hz : (S[i]).f1.size = n + 1 := by omega
    have := (beg_extract hb).2
    rw [hz] at this
    rw [this, idx_of hS hi] at h1
    simp at h1
theorem le_most {S : List Sp} {x : Sp} (h : x ∈ S) : x.f1.size ≤ mostOf S := by
 unfold mostOf
 have : ∀ (S : List Sp) (m : Nat), m ≤ S.foldl (fun m x => max m x.f1.size) m ∧ ∀ x ∈ S, x.f1.size ≤ S.foldl (fun m x => max m x.f1.size) m := by
  intro S
  induction S with
  | nil => intro m; simp
  | cons y S ih =>
   intro m
   obtain ⟨h1, h2⟩ := ih (max m y.f1.size)
   refine ⟨by simp only [List.foldl_cons]; omega, fun x hx => ?_⟩
   rcases List.mem_cons.1 hx with rfl | hx
   ·simp only [List.foldl_cons]; omega
   ·exact h2 x hx
 exact (this S 0).2 x h
theorem beg_first {S : List Sp} {s x : ByteArray} {y : Sp} (hy : y ∈ S) (h1 : 1 ≤ y.f1.size) (hb : begP s y.f1 = true) : firstOf S (bt s 0).toNat = true := by
 obtain ⟨h2, h3⟩ := beg_extract hb
 unfold firstOf
 rw [List.any_eq_true]
 refine ⟨y, hy, ?_⟩
 have e : bt y.f1 0 = bt s 0 := by
  rw [bt0 _ (by omega), bt0 _ (by omega)]
  have hq : y.f1[0] = (s.extract 0 y.f1.size)[0]'(by rw [ByteArray.size_extract]; omega) := by congr 1; exact h3.symm
  rw [hq, ByteArray.getElem_extract]
 have := bt_range s 0
 rw [e]; simp; omega
theorem atP_none {S : List Sp} (hS : GoodS S) {s : ByteArray} (h : atP S s = none) : ∀ i (hi : i < S.length), begP s (S[i]).f1 = false := by
 intro i hi
 cases hb : begP s (S[i]).f1 with
 | false => rfl
 | true =>
  have hg := hS.good _ (List.getElem_mem hi)
  have hsz := (beg_extract hb).1
  unfold atP at h
  rw [if_pos (by omega), if_pos (beg_first (x := s) (List.getElem_mem hi) hg.2.2.1 hb)] at h
  have := atN_none hS (by omega) h i hi (by have := le_most (List.getElem_mem hi); omega)
  rw [hb] at this; cases this
theorem atP_some {S : List Sp} (hS : GoodS S) {s : ByteArray} {j : Nat} (h : atP S s = some j) : ∃ hj : j < S.length, begP s (S[j]).f1 = true ∧ ∀ i (hi : i < S.length), begP s (S[i]).f1 = true → (S[i]).f1.size ≤ (S[j]).f1.size := by
 unfold atP at h
 split at h
 ·split at h
  ·obtain ⟨h1, m, h2, h3, h4⟩ := atN_spec h
   rw [rd_at h1] at h4
   have hsz : (S[j]).f1.size = m := by rw [h4, ByteArray.size_extract]; omega
   refine ⟨h1, ?_, fun i hi hb => ?_⟩
   ·unfold begP; rw [decide_eq_true_eq]; exact ⟨by omega, by rw [hsz, h4]⟩
   ·have := atN_max hS (by omega) h i hi (by have := le_most (List.getElem_mem hi); have := (beg_extract hb).1; omega) hb
    rwa [rd_at h1] at this
  ·cases h
 ·cases h
theorem text_inj {S : List Sp} (hS : GoodS S) {i j : Nat} (hi : i < S.length) (hj : j < S.length) (e : (S[i]).f1 = (S[j]).f1) : i = j := by
 have h1 := idx_of hS hi
 have h2 := idx_of hS hj
 rw [e, h2] at h1
 injection h1 with h1
 exact h1.symm
def markI (o : Option Nat) : Int := match o with | some i => -1 - (i : Int) | none => 0
theorem begin_of (s x y : ByteArray) (h1 : begP s x = true) (h2 : begP s y = true) (e : x.size = y.size) : x = y := by
 rw [← (beg_extract h1).2, ← (beg_extract h2).2, e]
theorem at_run {S : List Sp} (hS : GoodS S) (s : ByteArray) : ∀ (d k i : Nat) (b : Int), i ≤ S.length → S.length - i = d → d < k →
  ((b = 0 ∧ ∀ j (hj : j < S.length), j < i → begP s (S[j]).f1 = false) ∨ ∃ j, ∃ hj : j < S.length, j < i ∧ b = -1 - (j : Int) ∧ begP s (S[j]).f1 = true ∧ ∀ m (hm : m < S.length), m < i → begP s (S[m]).f1 = true → (S[m]).f1.size ≤ (S[j]).f1.size) →
  ligatureref09_At.l0 k S s b i = some (markI (atP S s))
 | 0, k, i, b, h0, h1, h2, hb => by
  obtain ⟨k, rfl⟩ : ∃ m, k = m + 1 := ⟨k - 1, by omega⟩
  simp only [ligatureref09_At.l0]
  rw [if_neg (by omega)]
  congr 1
  rcases hb with ⟨rfl, hb⟩ | ⟨j, hj, hji, rfl, hb, hm⟩
  ·cases ha : atP S s with
   | none => rfl
   | some j =>
    obtain ⟨hj, h3, _⟩ := atP_some hS ha
    rw [hb j hj (by omega)] at h3; cases h3
  ·cases ha : atP S s with
   | none => rw [atP_none hS ha j hj] at hb; cases hb
   | some m =>
    obtain ⟨hm1, h3, h4⟩ := atP_some hS ha
    have e1 := h4 j hj hb
    have e2 := hm m hm1 (by omega) h3
    have := text_inj hS hj hm1 (begin_of s _ _ hb h3 (by omega))
    subst this; rfl
 | d + 1, k, i, b, h0, h1, h2, hb => by
  obtain ⟨k, rfl⟩ : ∃ m, k = m + 1 := ⟨k - 1, by omega⟩
  have HB := As.mk hb
  clear hb
  have hlt : i < S.length := by omega
  have hfew := hS.few
  have e1 : i + 1 ≤ S.length := by omega
  have e2 : S.length - (i + 1) = d := by omega
  have e3 : d < k := by omega
  simp only [ligatureref09_At.l0]
  rw [if_pos (by omega), if_pos (by omega), rd_at hlt, begins_some]
  simp only [Option.bind_some]
  rw [w64 (i := (i : Int) + 1) (by omega) (by omega), show ((i : Int) + 1) = ((i + 1 : Nat) : Int) from by omega, w64 (i := -1 - (i : Int)) (by omega) (by omega)]
  have hb := HB.out
  clear HB
  cases hbi : begP s (S[i]).f1 with
  | false =>
   rw [if_neg (by simp)]
   refine at_run hS s d k (i + 1) b e1 e2 e3 ?_
   rcases hb with ⟨rfl, hb⟩ | ⟨j, hj, hji, rfl, hb, hm⟩
   ·refine .inl ⟨rfl, fun j hj hji => ?_⟩
    by_cases e : j = i
    ·subst e; exact hbi
    ·exact hb j hj (by omega)
   ·refine .inr ⟨j, hj, by omega, rfl, hb, fun m hm1 hmi hbm => ?_⟩
    by_cases e : m = i
    ·subst e; rw [hbi] at hbm; cases hbm
    ·exact hm m hm1 (by omega) hbm
  | true =>
   rw [if_pos rfl]
   rcases hb with ⟨rfl, hb⟩ | ⟨j, hj, hji, rfl, hb, hm⟩
   ·rw [if_pos rfl]
    refine at_run hS s d k (i + 1) _ e1 e2 e3 (.inr ⟨i, hlt, by omega, rfl, hbi, fun m hm1 hmi hbm => ?_⟩)
    by_cases e : m = i
    ·subst e; omega
    ·rw [hb m hm1 (by omega)] at hbm; cases hbm
   ·rw [if_neg (by omega), w64 (i := -1 - (-1 - (j : Int))) (by omega) (by omega), show -1 - (-1 - (j : Int)) = (j : Int) from by omega, if_pos (by omega), if_pos (by omega), rd_at hj]
    by_cases hsz : (S[j]).f1.size < (S[i]).f1.size
    ·rw [if_pos (by omega)]
     refine at_run hS s d k (i + 1) _ e1 e2 e3 (.inr ⟨i, hlt, by omega, rfl, hbi, fun m hm1 hmi hbm => ?_⟩)
     by_cases e : m = i
     ·subst e; omega
     ·have := hm m hm1 (by omega) hbm; omega
    ·rw [if_neg (by omega)]
     refine at_run hS s d k (i + 1) _ e1 e2 e3 (.inr ⟨j, hj, by omega, rfl, hb, fun m hm1 hmi hbm => ?_⟩)
     by_cases e : m = i
     ·subst e; omega
     ·exact hm m hm1 (by omega) hbm
theorem at_some {S : List Sp} (hS : GoodS S) (s : ByteArray) {k : Nat} (hk : S.length < k) : ligatureref09_At.f k S s = some (markI (atP S s)) := by
 unfold ligatureref09_At.f
 exact at_run hS s S.length k 0 0 (by omega) (by omega) hk (.inl ⟨rfl, fun j _ h => by omega⟩)
theorem extract_extract (s : ByteArray) (i j : Nat) (hi : i ≤ s.size) : (s.extract i s.size).extract j (s.extract i s.size).size = s.extract (i + j) s.size := by
 rw [ByteArray.extract_extract, ByteArray.size_extract]
 congr 1
 omega
theorem bt_extract (s : ByteArray) (i : Nat) (hi : i < s.size) : bt (s.extract i s.size) 0 = bt s i := by
 rw [bt0 _ (by rw [ByteArray.size_extract]; omega), ← bt_at s i (by simpa using hi), ByteArray.getElem_extract]
 simp
theorem parse_run {S : List Sp} (hS : GoodS S) (s : ByteArray) (hs : s.size ≤ 17592186044414) : ∀ (d k i : Nat) (xs : List Int), i ≤ s.size → s.size - i ≤ d → d + S.length < k → xs.length ≤ i →
  ligatureref09_Parse.l0 k S (s.extract i s.size) xs = some (xs ++ parseF S s d i)
 | 0, k, i, xs, h0, h1, h2, h3 => by
  obtain ⟨k, rfl⟩ : ∃ m, k = m + 1 := ⟨k - 1, by omega⟩
  simp only [ligatureref09_Parse.l0]
  rw [if_neg (by rw [ByteArray.size_extract]; omega)]; simp [parseF]
 | d + 1, k, i, xs, h0, h1, h2, h3 => by
  obtain ⟨k, rfl⟩ : ∃ m, k = m + 1 := ⟨k - 1, by omega⟩
  simp only [ligatureref09_Parse.l0]
  by_cases hlt : i < s.size
  ·have hz : (s.extract i s.size).size = s.size - i := by rw [ByteArray.size_extract]; omega
   have hat := at_some hS (s.extract i s.size) (k := k) (by omega)
   rw [if_pos (by omega)]
   cases ha : atP S (s.extract i s.size) with
   | none =>
    rw [ha] at hat
    rw [show ligatureref09_At.f k S (s.extract i s.size) = some 0 from hat]
    simp only [Option.bind_some, if_true]
    rw [parseF_byte hlt ha]
    rw [if_pos (by omega), if_pos (by omega), if_pos (by omega), extract_extract s i 1 h0, bt_extract s i hlt]
    have := bt_range s i
    rw [w64 (by omega) (by omega), parse_run hS s hs d k (i + 1) _ (by omega) (by omega) (by omega) (by simp; omega)]
    simp
   | some j =>
    obtain ⟨q1, q2, q3⟩ := atP_spec ha
    rw [parseF_mark hlt ha]
    have hfew := hS.few
    rw [ha] at hat
    rw [show ligatureref09_At.f k S (s.extract i s.size) = some (-1 - (j : Int)) from hat]
    simp only [Option.bind_some]
    rw [w64 (i := -1 - (-1 - (j : Int))) (by omega) (by omega), show -1 - (-1 - (j : Int)) = (j : Int) from by omega]
    rw [if_neg (by omega), if_pos (by omega), if_pos (by omega), if_pos (by omega), if_pos (by omega), if_pos (by omega)]
    rw [Int.toNat_natCast, extract_extract s i _ h0, parse_run hS s hs d k (i + _) _ (by omega) (by omega) (by omega) (by simp; omega)]
    simp
  ·rw [if_neg (by rw [ByteArray.size_extract]; omega), parseF_nil hlt]; simp
theorem parse_some {S : List Sp} (hS : GoodS S) (s : ByteArray) (hs : s.size ≤ 17592186044414) : ligatureref09_Parse.f (s.size + S.length + 1) S s = some (parseP S s) := by
 unfold ligatureref09_Parse.f parseP
 have := parse_run hS s hs s.size (s.size + S.length + 1) 0 [] (by omega) (by omega) (by omega) (by simp)
 rwa [show s.extract 0 s.size = s from by simp] at this
end Go.Proofs.YtkffhgiiejbnaaaGreat.Mk
