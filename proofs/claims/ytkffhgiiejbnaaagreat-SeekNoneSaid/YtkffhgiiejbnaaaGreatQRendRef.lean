import Derived.Test.YtkffhgiiejbnaaaGreatQSetF
import Derived.Test.YtkffhgiiejbnaaaGreatQ01
import Derived.Test.YtkffhgiiejbnaaaGreatQRender
set_option linter.unusedVariables false
set_option linter.unusedSimpArgs false
namespace Go.Proofs.YtkffhgiiejbnaaaGreat.Mk
open Go.RowKit YtkffhgiiejbnaaaGreatW.PrintWords YtkffhgiiejbnaaaGreatW.PrintLast YtkffhgiiejbnaaaGreatW.PrintMore Rf Aid Mp
theorem w64 {i : Int} (h0 : -9223372036854775808 ≤ i) (h : i ≤ 9223372036854775807) : wrap64 i = i := by unfold wrap64; omega
theorem rd_at {l : List Sp} {i : Nat} (h : i < l.length) : rd_T93 l (i : Int) = l[i] := by
 unfold rd_T93; rw [Int.toNat_natCast, List.getD_eq_getElem?_getD, List.getElem?_eq_getElem h]; rfl
theorem rdI {l : List Int} {i : Nat} (h : i < l.length) : rd l (i : Int) = l[i] := by
 unfold rd; rw [Int.toNat_natCast, List.getD_eq_getElem?_getD, List.getElem?_eq_getElem h]; rfl
def begP (s x : ByteArray) : Bool := decide (x.size ≤ s.size ∧ s.extract 0 x.size = x)
structure GoodS (S : List Sp) : Prop where
 good : ∀ x ∈ S, 0 ≤ x.f0 ∧ x.f0 ≤ 1073741824 ∧ 1 ≤ x.f1.size ∧ x.f1.size ≤ 64
 few : S.length ≤ 32
 apartI : (S.map (·.f0)).Nodup
 apartT : (S.map (·.f1)).Nodup
theorem SetAt.goodS {w : World} {p : Nat} {S : List Sp} (h : SetAt w p S) : GoodS S := ⟨h.good, h.few, h.apartI, h.apartT⟩
theorem beg_extract {s x : ByteArray} (h : begP s x = true) : x.size ≤ s.size ∧ s.extract 0 x.size = x := by unfold begP at h; exact of_decide_eq_true h
theorem idx_of {S : List Sp} (hS : GoodS S) {i : Nat} (hi : i < S.length) : idx S (S[i]).f1 = some i := by
 unfold idx
 rw [List.findIdx?_eq_some_iff_getElem]
 refine ⟨hi, by simp, fun j hj => ?_⟩
 simp only [decide_eq_true_eq]
 intro e
 have hn := hS.apartT
 rw [List.nodup_iff_pairwise_ne, List.pairwise_iff_getElem] at hn
 exact hn j i (by simp; omega) (by simpa using hi) hj (by simpa using e)
theorem atN_none {S : List Sp} (hS : GoodS S) {s : ByteArray} : ∀ {n : Nat}, n ≤ s.size → atN S s n = none → ∀ i (hi : i < S.length), (S[i]).f1.size ≤ n → begP s (S[i]).f1 = false
 | 0, _, _, i, hi, h => by have := (hS.good _ (List.getElem_mem hi)).2.2.1; omega
 | n + 1, hn, h, i, hi, hle => by
  rw [atN_succ] at h
  split at h
  ·rename_i h1; rw [h] at h1; simp at h1
  ·rename_i h1
   by_cases e : (S[i]).f1.size ≤ n
   ·exact atN_none hS (by omega) h i hi e
   ·have hz : (S[i]).f1.size = n + 1 := by omega
    cases hb : begP s (S[i]).f1 with
    | false => rfl
    | true =>
     have := (beg_extract hb).2
     rw [hz] at this
     rw [this, idx_of hS hi] at h1
     simp at h1
theorem le_most {S : List Sp} {x : Sp} (h : x ∈ S) : x.f1.size ≤ mostOf S := by
 unfold mostOf
 have : ∀ (S : List Sp) (m : Nat), m ≤ S.foldl (fun m x => max m x.f1.size) m ∧ ∀ x ∈ S, x.f1.size ≤ S.foldl (fun m x => max m x.f1.size) m := by
  intro S
  induction S with
  | nil => intro m; simp
  | cons y S ih =>
   intro m
   obtain ⟨h1, h2⟩ := ih (max m y.f1.size)
   refine ⟨by simp only [List.foldl_cons]; omega, fun x hx => ?_⟩
   rcases List.mem_cons.1 hx with rfl | hx
   ·simp only [List.foldl_cons]; omega
   ·exact h2 x hx
 exact (this S 0).2 x h
theorem beg_first {S : List Sp} {s x : ByteArray} {y : Sp} (hy : y ∈ S) (h1 : 1 ≤ y.f1.size) (hb : begP s y.f1 = true) : firstOf S (bt s 0).toNat = true := by
 obtain ⟨h2, h3⟩ := beg_extract hb
 unfold firstOf
 rw [List.any_eq_true]
 refine ⟨y, hy, ?_⟩
 have e : bt y.f1 0 = bt s 0 := by
  rw [bt0 _ (by omega), bt0 _ (by omega)]
  have hq : y.f1[0] = (s.extract 0 y.f1.size)[0]'(by rw [ByteArray.size_extract]; omega) := by congr 1; exact h3.symm
  rw [hq, ByteArray.getElem_extract]
 have := bt_range s 0
 rw [e]; simp; omega
theorem atP_none {S : List Sp} (hS : GoodS S) {s : ByteArray} (h : atP S s = none) : ∀ i (hi : i < S.length), begP s (S[i]).f1 = false := by
 intro i hi
 cases hb : begP s (S[i]).f1 with
 | false => rfl
 | true =>
  have hg := hS.good _ (List.getElem_mem hi)
  have hsz := (beg_extract hb).1
  unfold atP at h
  rw [if_pos (by omega), if_pos (beg_first (x := s) (List.getElem_mem hi) hg.2.2.1 hb)] at h
  have := atN_none hS (by omega) h i hi (by have := le_most (List.getElem_mem hi); omega)
  rw [hb] at this; cases this
end Go.Proofs.YtkffhgiiejbnaaaGreat.Mk
namespace Go.Proofs.YtkffhgiiejbnaaaGreat.Mk
open Go.RowKit YtkffhgiiejbnaaaGreatW.PrintWords YtkffhgiiejbnaaaGreatW.PrintLast YtkffhgiiejbnaaaGreatW.PrintMore Rf Aid Mp
theorem size_noS : (spNo).f1.size ≤ 64 := by show 0 ≤ 64; omega
theorem hasP_size {S : List Sp} (hS : GoodS S) (n : Int) : (hasP S n).1.f1.size ≤ 64 := by
 unfold hasP
 split
 ·rename_i h
  have h1 : (-1 - n).toNat < S.length := by omega
  have : rd_T93 S (-1 - n) = S[(-1 - n).toNat] := by
   unfold rd_T93; rw [List.getD_eq_getElem?_getD, List.getElem?_eq_getElem h1]; rfl
  show (rd_T93 S (-1 - n)).f1.size ≤ 64
  rw [this]
  exact (hS.good _ (List.getElem_mem h1)).2.2.2
 ·exact size_noS
theorem render_any {p : Nat} {S : List Sp} {w : World} (h : SetAt w p S) (A : Option Addr) (c : Nat) (xs : List Int) (hr : Kd.C (Kd.int .i64) w A xs.length xs) (hl : xs.length ≤ 1000000000000) :
  Calls Tryz.prog 105 #[.pointer (some ⟨p, 0, none⟩), .slice A xs.length c] w fun e w' => e = .returned (rendV (rendF (hasP S) xs)) ∧ Below w.heap.size w w' :=
 render_of _ (hasP S) A c xs w (hasP_size h.goodS) (fun W n hb => has_any (h.below hb) n) hr hl
end Go.Proofs.YtkffhgiiejbnaaaGreat.Mk
