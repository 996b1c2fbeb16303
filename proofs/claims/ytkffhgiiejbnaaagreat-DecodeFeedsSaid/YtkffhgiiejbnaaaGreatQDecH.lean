import Derived.Test.YtkffhgiiejbnaaaGreatQDecF
import Derived.Test.YtkffhgiiejbnaaaGreatQDecG
set_option linter.unusedVariables false
set_option linter.unusedSimpArgs false
namespace Go.Proofs.YtkffhgiiejbnaaaGreat.Dc
open Go.Shelf Go.RowKit Go.Proofs.YtkffhgiiejbnaaaGreatW.PrintWords Go.Proofs.YtkffhgiiejbnaaaGreatW.PrintLast Go.Proofs.YtkffhgiiejbnaaaGreatW.PrintMore Go.Proofs.YtkffhgiiejbnaaaGreat.Rf Go.Proofs.YtkffhgiiejbnaaaGreat.Aid Go.Proofs.YtkffhgiiejbnaaaGreat.Mp Go.Proofs.YtkffhgiiejbnaaaGreat.Hp Go.Proofs.YtkffhgiiejbnaaaGreat.Tk Go.Proofs.YtkffhgiiejbnaaaGreat.Vc
set_option linter.unusedVariables false
set_option linter.unusedSimpArgs false
set_option maxHeartbeats 400000
theorem ext_right (P X : ByteArray) (a b : Nat) : (P ++ X).extract (P.size + a) (P.size + b) = X.extract a b := by
  ext1
  simp only [ByteArray.data_extract, ByteArray.data_append]
  rw [Array.extract_append]
  have h : P.data.size = P.size := rfl
  rw [h]
  simp
theorem split_at (all : ByteArray) (q : Nat) (h : q ≤ all.size) : all.extract 0 q ++ all.extract q all.size = all := by
  ext1
  simp only [ByteArray.data_extract, ByteArray.data_append]
  rw [Array.extract_append_extract]
  simp
  exact Or.inr (by omega)
theorem cut_a (P X : ByteArray) (k : Nat) (hk : k ≤ X.size) : X.extract 0 (X.size - k) = (P ++ X).extract P.size ((P ++ X).size - k) := by
  have h := ext_right P X 0 (X.size - k)
  rw [Nat.add_zero] at h
  rw [← h, ByteArray.size_append]
  congr 1
  omega
theorem cut_b (P X : ByteArray) (k : Nat) (hk : k ≤ X.size) : X.extract (X.size - k) X.size = (P ++ X).extract ((P ++ X).size - k) (P ++ X).size := by
  have h := ext_right P X (X.size - k) X.size
  rw [← h, ByteArray.size_append]
  congr 1
  omega
theorem pass_plain (all t : ByteArray) : ∃ q, (tailB all (heldF all) ++ t).size = q + heldF (tailB all (heldF all) ++ t) ∧
    (tailB all (heldF all) ++ t).extract 0 q = (all ++ t).extract (all.size - heldF all) ((all ++ t).size - heldF (all ++ t)) ∧
    (tailB all (heldF all) ++ t).extract q (tailB all (heldF all) ++ t).size = tailB (all ++ t) (heldF (all ++ t)) ∧
    (all.size - heldF all) + q = (all ++ t).size - heldF (all ++ t) := by
  have hk := heldF_cat all t
  have hle := heldF_le all
  have hk2 := heldF_le (tailB all (heldF all) ++ t)
  have hts := tailB_size hle
  have hP : (all.extract 0 (all.size - heldF all)).size = all.size - heldF all := by rw [ByteArray.size_extract]; omega
  have hsp : all.extract 0 (all.size - heldF all) ++ tailB all (heldF all) = all := split_at all (all.size - heldF all) (by omega)
  rw [hk]
  generalize heldF (tailB all (heldF all) ++ t) = k at *
  generalize heldF all = m at *
  generalize tailB all m = hd at *
  generalize all.extract 0 (all.size - m) = P at *
  subst hsp
  have hX : P ++ hd ++ t = P ++ (hd ++ t) := ByteArray.append_assoc
  have hs1 : (P ++ hd).size = P.size + hd.size := ByteArray.size_append
  have hpm : (P ++ hd).size - m = P.size := by omega
  rw [hpm, hX]
  generalize hd ++ t = Y at *
  have hs2 : (P ++ Y).size = P.size + Y.size := ByteArray.size_append
  exact ⟨Y.size - k, by omega, cut_a P Y k hk2, cut_b P Y k hk2, by omega⟩
theorem at_sl {w : World} {A : Option Addr} {n : Nat} {l : List (List Int)} (h : Kd.C (Kd.slice 3 (Kd.int .i64)) w A n l) {i : Nat} (hi : i < l.length) :
    ∃ ad A' c', A = some ad ∧ w.cell? (ad.add i) = some (.slice A' (l[i]).length c') ∧ (l[i]).length ≤ c' ∧ Kd.C (Kd.int .i64) w A' (l[i]).length l[i] := by
  have hn : l.length = n := h.1
  obtain ⟨ad, c, e, _, hK, hc⟩ := Kd.C_get h [] (i : Int) (by omega) (by omega)
  rw [Int.toNat_natCast, List.getD_eq_getElem?_getD, List.getElem?_eq_getElem hi] at hK
  obtain ⟨A', c', e', h1, h2⟩ := hK
  have e'' : c = [.slice A' (l[i]).length c'] := e'
  subst e''
  refine ⟨ad, A', c', e, ?_, h1, h2⟩
  have h3 := hc 0 _ rfl
  rw [Int.toNat_natCast] at h3
  have e2 : i * (Kd.slice 3 (Kd.int .i64)).sz + 0 = i := by show i * 1 + 0 = i; omega
  rw [e2] at h3
  exact h3
theorem rend_len {X : List Mk.Sp} (h : Mk.GoodS X) : ∀ (xs : List Int) (l : List UInt8), Mk.rendF (Mk.hasP X) xs = some l → l.length ≤ 64 * xs.length
  | [], l, e => by simp [Mk.rendF] at e; subst e; simp
  | x :: xs, l, e => by
    unfold Mk.rendF at e
    rw [List.length_cons]
    split at e
    · obtain ⟨l', e', rfl⟩ := Option.map_eq_some_iff.1 e
      have := rend_len h xs l' e'
      rw [List.length_cons]; omega
    · split at e
      · obtain ⟨l', e', rfl⟩ := Option.map_eq_some_iff.1 e
        have h1 := rend_len h xs l' e'
        have h2 := Mk.hasP_size h x
        have h3 : (Mk.hasP X x).1.f1.data.toList.length = (Mk.hasP X x).1.f1.size := by simp
        rw [List.length_append]; omega
      · cases e
theorem rendS_len {X : List Mk.Sp} (h : Mk.GoodS X) (xs : List Int) : (rendS X xs).size ≤ 64 * xs.length := by
  unfold rendS
  cases hr : Mk.rendF (Mk.hasP X) xs with
  | none => show 0 ≤ _; omega
  | some l => exact rend_len h xs l hr
end Go.Proofs.YtkffhgiiejbnaaaGreat.Dc
