import Derived.Test.YtkffhgiiejbnaaaGreatQSetF
import Derived.Test.YtkffhgiiejbnaaaGreatQ01
import Derived.Test.YtkffhgiiejbnaaaGreatQRender
import Derived.Test.YtkffhgiiejbnaaaGreatQ02
set_option linter.unusedVariables false
set_option linter.unusedSimpArgs false
namespace Go.Proofs.YtkffhgiiejbnaaaGreat.Mk
open Go.RowKit Go.Proofs.YtkffhgiiejbnaaaGreatW.PrintWords Go.Proofs.YtkffhgiiejbnaaaGreatW.PrintLast Go.Proofs.YtkffhgiiejbnaaaGreatW.PrintMore Go.Proofs.YtkffhgiiejbnaaaGreat.Rf Go.Proofs.YtkffhgiiejbnaaaGreat.Aid Go.Proofs.YtkffhgiiejbnaaaGreat.Mp
set_option linter.unusedVariables false
set_option linter.unusedSimpArgs false
theorem w64 {i : Int} (h0 : -9223372036854775808 ≤ i) (h : i ≤ 9223372036854775807) : wrap64 i = i := by unfold wrap64; omega
theorem rd_at {l : List Sp} {i : Nat} (h : i < l.length) : rd_T93 l (i : Int) = l[i] := by
  unfold rd_T93; rw [Int.toNat_natCast, List.getD_eq_getElem?_getD, List.getElem?_eq_getElem h]; rfl
def greatP (l : List Sp) : Bool := l.any (fun x => decide (100 < x.f1.size)) || decide (40 < l.length)
theorem great_run (l : List Sp) (hl : l.length ≤ 9223372036854775807) : ∀ (d k i : Nat), i ≤ l.length → l.length - i = d → d < k → ligatureref09_Great.l0 k l i = some ((l.drop i).any (fun x => decide (100 < x.f1.size)) || decide (40 < l.length))
  | 0, k, i, h0, h1, h2 => by
    obtain ⟨k, rfl⟩ : ∃ m, k = m + 1 := ⟨k - 1, by omega⟩
    simp only [ligatureref09_Great.l0]
    rw [if_neg (by omega), List.drop_eq_nil_of_le (by omega)]
    simp only [List.any_nil, Bool.false_or]
    congr 1; rw [decide_eq_decide]; omega
  | d + 1, k, i, h0, h1, h2 => by
    obtain ⟨k, rfl⟩ : ∃ m, k = m + 1 := ⟨k - 1, by omega⟩
    have hlt : i < l.length := by omega
    simp only [ligatureref09_Great.l0]
    rw [if_pos (by omega), if_pos (by omega), rd_at hlt, List.drop_eq_getElem_cons hlt, List.any_cons]
    by_cases hx : 100 < (l[i]).f1.size
    · rw [if_pos (by omega)]; simp [hx]
    · rw [if_neg (by omega), w64 (by omega) (by omega), show ((i : Int) + 1) = ((i + 1 : Nat) : Int) from by omega, great_run l hl d k (i + 1) (by omega) (by omega) (by omega)]
      simp [hx]
theorem great_some (l : List Sp) (hl : l.length ≤ 9223372036854775807) : ligatureref09_Great.f (l.length + 1) l = some (greatP l) := by
  unfold ligatureref09_Great.f
  exact (great_run l hl l.length (l.length + 1) 0 (by omega) (by omega) (by omega)).trans (by rw [List.drop_zero]; rfl)
theorem rdI {l : List Int} {i : Nat} (h : i < l.length) : rd l (i : Int) = l[i] := by
  unfold rd; rw [Int.toNat_natCast, List.getD_eq_getElem?_getD, List.getElem?_eq_getElem h]; rfl
structure GoodS (S : List Sp) : Prop where
  good : ∀ x ∈ S, 0 ≤ x.f0 ∧ x.f0 ≤ 1073741824 ∧ 1 ≤ x.f1.size ∧ x.f1.size ≤ 64
  few : S.length ≤ 32
  apartI : (S.map (·.f0)).Nodup
  apartT : (S.map (·.f1)).Nodup
theorem SetAt.goodS {w : World} {p : Nat} {S : List Sp} (h : SetAt w p S) : GoodS S := ⟨h.good, h.few, h.apartI, h.apartT⟩
end Go.Proofs.YtkffhgiiejbnaaaGreat.Mk
namespace Go.Proofs.YtkffhgiiejbnaaaGreat.Mk
open Go.RowKit Go.Proofs.YtkffhgiiejbnaaaGreatW.PrintWords Go.Proofs.YtkffhgiiejbnaaaGreatW.PrintLast Go.Proofs.YtkffhgiiejbnaaaGreatW.PrintMore Go.Proofs.YtkffhgiiejbnaaaGreat.Rf Go.Proofs.YtkffhgiiejbnaaaGreat.Aid Go.Proofs.YtkffhgiiejbnaaaGreat.Mp
set_option linter.unusedVariables false
set_option linter.unusedSimpArgs false
theorem size_noS : (spNo).f1.size ≤ 64 := by show 0 ≤ 64; omega
theorem hasP_size {S : List Sp} (hS : GoodS S) (n : Int) : (hasP S n).1.f1.size ≤ 64 := by
  unfold hasP
  split
  · rename_i h
    have h1 : (-1 - n).toNat < S.length := by omega
    have : rd_T93 S (-1 - n) = S[(-1 - n).toNat] := by
      unfold rd_T93; rw [List.getD_eq_getElem?_getD, List.getElem?_eq_getElem h1]; rfl
    show (rd_T93 S (-1 - n)).f1.size ≤ 64
    rw [this]
    exact (hS.good _ (List.getElem_mem h1)).2.2.2
  · exact size_noS
theorem render_any {p : Nat} {S : List Sp} {w : World} (h : SetAt w p S) (A : Option Addr) (c : Nat) (xs : List Int) (hr : Kd.C (Kd.int .i64) w A xs.length xs) (hl : xs.length ≤ 1000000000000) :
    Calls Tryz.prog 105 #[.pointer (some ⟨p, 0, none⟩), .slice A xs.length c] w fun e w' => e = .returned (rendV (rendF (hasP S) xs)) ∧ Below w.heap.size w w' :=
  render_of _ (hasP S) A c xs w (hasP_size h.goodS) (fun W n hb => has_any (h.below hb) n) hr hl
def natsOf (l : List UInt8) : List Int := l.map (fun b => (b.toNat : Int))
theorem str_natsOf (l : List UInt8) : strOfNums (natsOf l) = ⟨l.toArray⟩ := by
  unfold strOfNums natsOf
  rw [List.map_map]
  have : l.map ((fun n : Int => UInt8.ofNat n.toNat) ∘ fun b : UInt8 => (b.toNat : Int)) = l := by
    conv => rhs; rw [← List.map_id l]
    apply List.map_congr_left
    intro b _
    simp
  rw [this]
theorem natsOf_app (l m : List UInt8) : natsOf (l ++ m) = natsOf l ++ natsOf m := by simp [natsOf]
def rendR (o : Option (List UInt8)) : ByteArray × Bool := (match o with | some l => ⟨l.toArray⟩ | none => ⟨#[]⟩, o.isSome)
theorem rrun {S : List Sp} (hS : GoodS S) (xs : List Int) (hl : xs.length ≤ 1000000000000) : ∀ (d k i : Nat) (acc : List UInt8), i ≤ xs.length → xs.length - i = d → 2 * d < k → acc.length ≤ i * 64 →
    ligatureref09_Render.l0 k S xs (natsOf acc) i = some (rendR ((rendF (hasP S) (xs.drop i)).map (acc ++ ·)))
  | 0, k, i, acc, h0, h1, h2, h3 => by
    obtain ⟨k, rfl⟩ : ∃ m, k = m + 1 := ⟨k - 1, by omega⟩
    simp only [ligatureref09_Render.l0]
    rw [if_neg (by omega), List.drop_eq_nil_of_le (by omega), str_natsOf]
    simp [rendF, rendR]
  | d + 1, k, i, acc, h0, h1, h2, h3 => by
    obtain ⟨k, rfl⟩ : ∃ m, k = m + 2 := ⟨k - 2, by omega⟩
    have hlt : i < xs.length := by omega
    have hfew := hS.few
    have e1 : i + 1 ≤ xs.length := by omega
    have e2 : xs.length - (i + 1) = d := by omega
    have e3 : 2 * d < k := by omega
    have hw : wrap64 ((i : Int) + 1) = ((i + 1 : Nat) : Int) := (w64 (by omega) (by omega)).trans (by omega)
    have hlen : (natsOf acc).length = acc.length := by simp [natsOf]
    have hnb : ∀ n : Int, 0 ≤ n → n < 256 → natsOf acc ++ [n % 256] = natsOf (acc ++ [UInt8.ofNat n.toNat]) := fun n hn0 hn1 => by
      rw [natsOf_app]
      congr 1
      obtain ⟨m, rfl⟩ := Int.eq_ofNat_of_zero_le hn0
      have h1 : m % 256 = m := Nat.mod_eq_of_lt (by omega)
      have h2 : (m : Int) % 256 = m := by omega
      simp [natsOf, UInt8.toNat_ofNat, h1, h2]
    have hbs : ∀ s : ByteArray, natsOf acc ++ bytesOf s = natsOf (acc ++ s.data.toList) := fun s => by rw [natsOf_app]; rfl
    simp only [ligatureref09_Render.l0]
    rw [if_pos (by omega), if_pos (by omega), List.drop_eq_getElem_cons hlt]
    by_cases hn : 0 ≤ xs[i] ∧ xs[i] < 256
    · rw [rdI hlt, if_pos hn.1, rend_byte hn, decide_eq_true hn.2]
      simp only [ligatureref09_Render.j1, if_true]
      rw [if_pos (by omega), if_pos (by omega), if_pos (by omega), rdI hlt, hw, hnb _ hn.1 hn.2]
      exact rrun hS xs hl d k (i + 1) _ e1 e2 e3 (by simp; omega)
    · have hj : (if rd xs (i : Int) ≥ 0 then ligatureref09_Render.j1 (k + 1) S xs (natsOf acc) (i : Int) (decide (rd xs (i : Int) < 256)) else ligatureref09_Render.j1 (k + 1) S xs (natsOf acc) (i : Int) false) = ligatureref09_Render.j1 (k + 1) S xs (natsOf acc) (i : Int) false := by
        rw [rdI hlt]
        by_cases h0 : xs[i] ≥ 0
        · rw [if_pos h0, decide_eq_false (by omega)]
        · rw [if_neg h0]
      rw [hj]
      simp only [ligatureref09_Render.j1, Bool.false_eq_true, if_false]
      rw [if_pos (by omega), if_pos (by omega), rdI hlt]
      have hwn : wrap64 (-(S.length : Int)) = -(S.length : Int) := w64 (by omega) (by omega)
      rw [hwn]
      by_cases h1 : xs[i] < 0
      · rw [if_pos h1]
        by_cases h2 : xs[i] ≥ -(S.length : Int)
        · have hw2 : wrap64 (-1 - xs[i]) = -1 - xs[i] := w64 (by omega) (by omega)
          have hH : hasP S xs[i] = (rd_T93 S (-1 - xs[i]), true) := by unfold hasP; rw [if_pos ⟨h1, by omega⟩]
          have hsz := hasP_size hS xs[i]
          rw [hH] at hsz
          rw [if_pos h2, hw2, if_pos (by omega), if_pos (by omega), rend_mark hn (by rw [hH]), hH]
          rw [if_pos (by rw [hlen]; simp only at hsz; omega), hbs, hw]
          exact rrun hS xs hl d k (i + 1) _ e1 e2 e3 (by rw [List.length_append, ← Lib.size_eq]; simp only at hsz; omega)
        · have hH : hasP S xs[i] = (spNo, false) := by unfold hasP; rw [if_neg (by omega)]
          rw [if_neg h2, rend_none hn (by rw [hH])]
          rfl
      · have hH : hasP S xs[i] = (spNo, false) := by unfold hasP; rw [if_neg (by omega)]
        rw [if_neg h1, rend_none hn (by rw [hH])]
        rfl
theorem rend_some {S : List Sp} (hS : GoodS S) (xs : List Int) (hl : xs.length ≤ 1000000000000) : ligatureref09_Render.f (2 * xs.length + 1) S xs = some (rendR (rendF (hasP S) xs)) := by
  unfold ligatureref09_Render.f
  have := rrun hS xs hl xs.length (2 * xs.length + 1) 0 [] (by omega) (by omega) (by omega) (by simp)
  rw [List.drop_zero] at this
  refine this.trans ?_
  congr 2
  cases rendF (hasP S) xs with
  | none => rfl
  | some l => simp
theorem refRender_any (A : Option Addr) (c : Nat) (l : List Sp) (B : Option Addr) (d : Nat) (xs : List Int) (w : World) (hr : Kd.C kSp w A l.length l) (hc : l.length ≤ c) (hr1 : Kd.C (Kd.int .i64) w B xs.length xs) (hc1 : xs.length ≤ d) (hS : GoodS l) (hl : xs.length ≤ 1000000000000) :
    Calls Tryz.prog 35 #[.slice A l.length c, .slice B xs.length d] w fun e w' => e = .returned (rendV (rendF (hasP l) xs)) ∧ Below w.heap.size w w' :=
  ligatureref09_Render.calls _ A c l B d xs _ _ w hr hc hr1 hc1 (rend_some hS xs hl)
end Go.Proofs.YtkffhgiiejbnaaaGreat.Mk
