/- Of any special tokens the set, or which one can't be there, and why; any one's number and mark: the law's walk; no condition. -/
import Derived.Test.YtphdbombgljamaaNewsA
import Derived.Laws.StructEq
namespace Go.Proofs.Ytphdbombgljamaa.Mk
open Go.RowKit Go.Proofs.YtphdbombgljamaaW.PrintWords Go.Proofs.YtphdbombgljamaaW.PrintLast Go.Proofs.YtphdbombgljamaaW.PrintMore Go.Proofs.Ytphdbombgljamaa.Rf Go.Proofs.Ytphdbombgljamaa.Aid Go.Proofs.Ytphdbombgljamaa.Mp
set_option linter.unusedVariables false
set_option linter.unusedSimpArgs false
set_option maxHeartbeats 400000

theorem great_few {l : List Sp} (h : greatP l = false) : l.length ≤ 40 := by
  unfold greatP at h
  simp only [Bool.or_eq_false_iff, decide_eq_false_iff_not] at h
  omega
theorem idxI_step {l : List Sp} (hS : GoodS l) (id : Int) {i : Nat} (h : i < l.length) : idxI (l.take (i + 1)) id = if (l[i]).f0 = id then some i else idxI (l.take i) id := by
  have ht := List.take_succ_eq_append_getElem h
  unfold idxI
  rw [ht, List.findIdx?_append]
  by_cases e : (l[i]).f0 = id
  · have hno : (l.take i).findIdx? (fun x => decide (x.f0 = id)) = none := by
      rw [List.findIdx?_eq_none_iff]
      intro y hy
      obtain ⟨j, hj, rfl⟩ := List.mem_iff_getElem.1 hy
      rw [List.getElem_take]
      rw [List.length_take] at hj
      apply decide_eq_false
      intro e1
      have hn := hS.apartI
      rw [List.nodup_iff_pairwise_ne, List.pairwise_iff_getElem] at hn
      exact hn j i (by simp; omega) (by simpa using h) (by omega) (by simp [e, e1])
    have hlen : (l.take i).length = i := by simp; omega
    rw [hno, if_pos e]
    simp [e]
    omega
  · rw [if_neg e]
    simp [e]
theorem hasP_cases (S : List Sp) (m : Int) : ∃ x b, hasP S m = (x, b) ∧ ((b = true ∧ m < 0 ∧ -(S.length : Int) ≤ m ∧ x = rd_T52 S (-1 - m)) ∨ (b = false ∧ ¬ m < 0) ∨ (b = false ∧ m < 0 ∧ m < -(S.length : Int))) := by
  unfold hasP
  by_cases h0 : m < 0
  · by_cases h1 : -(S.length : Int) ≤ m
    · exact ⟨_, _, if_pos ⟨h0, h1⟩, .inl ⟨rfl, h0, h1, rfl⟩⟩
    · exact ⟨_, _, if_neg (fun h => h1 h.2), .inr (.inr ⟨rfl, h0, by omega⟩)⟩
  · exact ⟨_, _, if_neg (fun h => h0 h.1), .inr (.inl ⟨rfl, h0⟩)⟩

set_option maxRecDepth 100000 in
set_option maxHeartbeats 2000000 in
theorem news_walk (A : Option Addr) (c : Nat) (l : List Sp) (id m : Int) (w : World) (hr : Kd.C kSp w A l.length l) (hc : l.length ≤ c) (hl : l.length ≤ 9223372036854775807) :
    Calls Try.prog 6 #[.slice A l.length c, .int .i64 id, .int .i64 m] w fun e w' => e = .returned (.bool true) ∧ Below w.heap.size w w' := by
  have HR := As.mk hr
  have HC := As.mk hc
  clear hr hc
  have hne52 : ∀ (a : Int) (b : ByteArray) (w : World), (binOp .neq 52 (.agg #[.int .i64 a, .string b]) (.agg #[.int .i64 a, .string b])).run Try.prog w = .ok (.bool false) w := fun a b w => by
    go_simp
  cases hg : greatP l with
  | true =>
    have HG := As.mk hg
    clear hg
    go_enter Try.func6, Try.ntmps6
    go_wp2_with fail
    refine (great_any A c l _ HR.out HC.out hl).mono ?_
    rw [HG.out]
    rintro e w1 ⟨rfl, ⟨n, rfl⟩⟩
    go_wp2_with fail
    refine (awake_any _).mono ?_
    rintro e w1 ⟨rfl, hb⟩
    go_wp2
    go_ret
    exact ⟨rfl, bt_ (pw_below_drewN (Below.refl _ _) _) hb⟩
  | false =>
    have h40 := great_few hg
    have HG := As.mk hg
    clear hg
    go_enter Try.func6, Try.ntmps6
    go_wp2_with fail
    refine (great_any A c l _ HR.out HC.out hl).mono ?_
    rw [HG.out]
    rintro e w1 ⟨rfl, ⟨n, rfl⟩⟩
    go_wp2_with fail
    refine (new_any A c l _ (Kd.C_below HR.out (pw_below_drewN (Below.refl _ _) _)) hl).mono ?_
    by_cases hn : (newP l).2 = 0
    · rw [if_pos hn, hn]
      rintro e w2 ⟨v, rfl, ⟨p, rfl, hp⟩, hb⟩
      have HB2 := As.mk (bt_ (pw_below_drewN (Below.refl _ _) _) hb)
      have HP := As.mk hp
      clear hb hp
      go_wp2_with fail
      refine (check_any' A c l _ (Kd.C_below HR.out HB2.out) HC.out (by omega)).mono ?_
      rw [hn]
      rintro e w3 ⟨rfl, ⟨n2, rfl⟩⟩
      have HN := As.mk hn
      clear hn
      have HB3 := As.mk (pw_below_drewN HB2.out n2)
      have HP3 := As.mk (HP.out.below (pw_below_drewN (Below.refl _ _) n2))
      clear HB2 HP
      generalize w2.drewN n2 = w3 at HB3 HP3 ⊢
      go_wp2_with fail
      refine (id_any HP3.out m).mono ?_
      obtain ⟨x, b, hx, hcase⟩ := hasP_cases l m
      rw [hx]
      rintro e w4 ⟨rfl, hb⟩
      have HB4 := As.mk (bt_ HB3.out hb)
      have HP4 := As.mk (HP3.out.below hb)
      clear hb HB3 HP3 hx
      have HCASE := As.mk hcase
      clear hcase
      go_wp2_with fail
      refine (mark_any HP4.out id).mono ?_
      have HA := As.mk (show markT (idxI l id) = .tuple #[.int .i64 (markI (idxI l id)), .bool (idxI l id).isSome] from rfl)
      rw [HA.out]
      have hm := mark_some (idxI l id)
      rw [hm]
      clear HA hm
      obtain ⟨y, hy⟩ : ∃ y, markI (idxI l id) = y := ⟨_, rfl⟩
      rw [hy]
      have HY := As.mk hy
      clear hy
      rintro e w5 ⟨rfl, rfl⟩
      go_wp2
      go_loopg [16, 17] l.length (fun k v16 v17 w' => ∃ i : Nat, v16 = .int .i64 (markI (idxI (l.take i) id)) ∧ v17 = .int .i64 i ∧ i ≤ l.length ∧ As (l.length - i ≤ k) ∧ As (w' = w4))
      case atStart => exact ⟨0, rfl, rfl, Nat.zero_le _, ⟨by omega⟩, ⟨rfl⟩⟩
      case round =>
        obtain ⟨i, rfl, rfl, hi, HK, HW⟩ := hrel
        obtain rfl := HW.out
        clear HW
        by_cases hlt : i < l.length
        · obtain ⟨k1, rfl⟩ : ∃ k1, gk = k1 + 1 := ⟨gk - 1, by have := HK.out; omega⟩
          obtain ⟨ad, rfl, x0, x1⟩ := at_T52 (Kd.C_below HR.out HB4.out) (i : Int) (by omega) (by omega)
          have hst := idxI_step HP4.out.goodS id hlt
          have hrd : rd_T52 l (i : Int) = l[i] := rd_at hlt
          rw [Int.toNat_natCast, hrd] at x0
          clear x1 hrd
          have hltI : (i : Int) < l.length := by omega
          have HST := As.mk hst
          clear hst
          generalize l[i] = z at *
          by_cases e : z.f0 = id
          · have he : (z.f0 == id) = true := by simpa using e
            go_wp2
            go_roundg k1
            case measure => omega
            case rel =>
              refine ⟨i + 1, ?_, by go_num, by omega, ⟨by have := HK.out; omega⟩, ⟨rfl⟩⟩
              rw [HST.out, if_pos e]
              go_num
          · have he : (z.f0 == id) = false := by simpa using e
            go_wp2
            go_roundg k1
            case measure => omega
            case rel =>
              refine ⟨i + 1, ?_, by go_num, by omega, ⟨by have := HK.out; omega⟩, ⟨rfl⟩⟩
              rw [HST.out, if_neg e]
        · obtain rfl : i = l.length := by omega
          rw [List.take_length, HY.out]
          go_wp2_with fail
          refine (all_any HP4.out).mono ?_
          rintro e w6 ⟨A6, c6, rfl, hr6, hb⟩
          have HB6 := As.mk (bt_ HB4.out hb)
          have HP6 := As.mk (HP4.out.below hb)
          have HR6 := As.mk hr6
          clear hb hr6
          obtain ⟨A9, c9, hl0, _⟩ := HP6.out.rows
          have hHX : As ((b = true ∧ m < 0 ∧ -(l.length : Int) ≤ m ∧ x = rd_T52 l (-1 - m) ∧ ∃ ad, A = some ad ∧ w6.cell? (ad.add ((-1 - m).toNat * 2)) = some (.int .i64 x.f0)) ∨ (b = false ∧ ¬ m < 0) ∨ (b = false ∧ m < 0 ∧ m < -(l.length : Int))) := by
            rcases HCASE.out with ⟨a1, a2, a3, a4⟩ | h | h
            · obtain ⟨ad, e, x0, x1⟩ := at_T52 (Kd.C_below HR.out HB6.out) (-1 - m) (by omega) (by omega)
              exact ⟨.inl ⟨a1, a2, a3, a4, ad, e, by rw [a4]; exact x0⟩⟩
            · exact ⟨.inr (.inl ⟨h.1, by omega⟩)⟩
            · exact ⟨.inr (.inr h)⟩
          clear HCASE
          go_wp2_with fail
          refine (len_any p l.length c9 A9 _ hl0).mono ?_
          rintro e w7 ⟨rfl, rfl⟩
          rcases hHX.out with ⟨rfl, h0, h1, hx, ad, rfl, hcell⟩ | ⟨rfl, h0⟩ | ⟨rfl, h0, h1⟩
          · have i0 : 0 ≤ -1 - m := by omega
            have i1 : -1 - m < (l.length : Int) := by omega
            clear hx hHX
            go_wp2
            go_loopg [19] l.length (fun k v w' => ∃ i : Nat, v = .int .i64 i ∧ i ≤ l.length ∧ As (l.length - i ≤ k) ∧ As (Drawn w6 w'))
            case atStart => exact ⟨0, rfl, Nat.zero_le _, ⟨by omega⟩, ⟨Drawn.refl _⟩⟩
            case round =>
              obtain ⟨i, rfl, hi, HK, HW⟩ := hrel
              obtain ⟨n5, rfl⟩ := HW.out
              clear HW
              by_cases hlt : i < l.length
              · obtain ⟨k1, rfl⟩ : ∃ k1, gk = k1 + 1 := ⟨gk - 1, by have := HK.out; omega⟩
                obtain ⟨ad1, hA1, x0, x1⟩ := at_T52 (Kd.C_below HR.out HB6.out) (i : Int) (by omega) (by omega)
                obtain ⟨ad2, rfl, y0, y1⟩ := at_T52 HR6.out (i : Int) (by omega) (by omega)
                first | (injection hA1 with hA1; subst hA1) | subst hA1
                have hltI : (i : Int) < l.length := by omega
                rw [Int.toNat_natCast] at x0 x1 y0 y1
                generalize rd_T52 l (i : Int) = z at *
                go_wp2
                go_quiet (fail)
                go_wp2
                go_roundg k1
                case measure => omega
                case rel => exact ⟨i + 1, by go_num, by omega, ⟨by have := HK.out; omega⟩, ⟨(by repeat (first | exact Drawn.refl _ | apply Drawn.step | apply Drawn.step1))⟩⟩
              · obtain rfl : i = l.length := by omega
                go_wp2_with fail
                refine (awake_any _).mono ?_
                rintro e w1 ⟨rfl, hb⟩
                go_wp2
                go_ret
                exact ⟨rfl, bt_ (pw_below_drewN HB6.out _) hb⟩
          · clear hHX
            go_wp2
            go_loopg [19] l.length (fun k v w' => ∃ i : Nat, v = .int .i64 i ∧ i ≤ l.length ∧ As (l.length - i ≤ k) ∧ As (Drawn w6 w'))
            case atStart => exact ⟨0, rfl, Nat.zero_le _, ⟨by omega⟩, ⟨Drawn.refl _⟩⟩
            case round =>
              obtain ⟨i, rfl, hi, HK, HW⟩ := hrel
              obtain ⟨n5, rfl⟩ := HW.out
              clear HW
              by_cases hlt : i < l.length
              · obtain ⟨k1, rfl⟩ : ∃ k1, gk = k1 + 1 := ⟨gk - 1, by have := HK.out; omega⟩
                obtain ⟨ad1, hA1, x0, x1⟩ := at_T52 (Kd.C_below HR.out HB6.out) (i : Int) (by omega) (by omega)
                obtain ⟨ad2, rfl, y0, y1⟩ := at_T52 HR6.out (i : Int) (by omega) (by omega)
                first | (injection hA1 with hA1; subst hA1) | subst hA1
                have hltI : (i : Int) < l.length := by omega
                rw [Int.toNat_natCast] at x0 x1 y0 y1
                generalize rd_T52 l (i : Int) = z at *
                go_wp2
                go_quiet (fail)
                go_wp2
                go_roundg k1
                case measure => omega
                case rel => exact ⟨i + 1, by go_num, by omega, ⟨by have := HK.out; omega⟩, ⟨(by repeat (first | exact Drawn.refl _ | apply Drawn.step | apply Drawn.step1))⟩⟩
              · obtain rfl : i = l.length := by omega
                go_wp2_with fail
                refine (awake_any _).mono ?_
                rintro e w1 ⟨rfl, hb⟩
                go_wp2
                go_ret
                exact ⟨rfl, bt_ (pw_below_drewN HB6.out _) hb⟩
          · clear hHX
            go_wp2
            go_loopg [19] l.length (fun k v w' => ∃ i : Nat, v = .int .i64 i ∧ i ≤ l.length ∧ As (l.length - i ≤ k) ∧ As (Drawn w6 w'))
            case atStart => exact ⟨0, rfl, Nat.zero_le _, ⟨by omega⟩, ⟨Drawn.refl _⟩⟩
            case round =>
              obtain ⟨i, rfl, hi, HK, HW⟩ := hrel
              obtain ⟨n5, rfl⟩ := HW.out
              clear HW
              by_cases hlt : i < l.length
              · obtain ⟨k1, rfl⟩ : ∃ k1, gk = k1 + 1 := ⟨gk - 1, by have := HK.out; omega⟩
                obtain ⟨ad1, hA1, x0, x1⟩ := at_T52 (Kd.C_below HR.out HB6.out) (i : Int) (by omega) (by omega)
                obtain ⟨ad2, rfl, y0, y1⟩ := at_T52 HR6.out (i : Int) (by omega) (by omega)
                first | (injection hA1 with hA1; subst hA1) | subst hA1
                have hltI : (i : Int) < l.length := by omega
                rw [Int.toNat_natCast] at x0 x1 y0 y1
                generalize rd_T52 l (i : Int) = z at *
                go_wp2
                go_quiet (fail)
                go_wp2
                go_roundg k1
                case measure => omega
                case rel => exact ⟨i + 1, by go_num, by omega, ⟨by have := HK.out; omega⟩, ⟨(by repeat (first | exact Drawn.refl _ | apply Drawn.step | apply Drawn.step1))⟩⟩
              · obtain rfl : i = l.length := by omega
                go_wp2_with fail
                refine (awake_any _).mono ?_
                rintro e w1 ⟨rfl, hb⟩
                go_wp2
                go_ret
                exact ⟨rfl, bt_ (pw_below_drewN HB6.out _) hb⟩
    · rw [if_neg hn]
      rintro e w2 ⟨v, rfl, rfl, hb⟩
      have HB2 := As.mk (bt_ (pw_below_drewN (Below.refl _ _) _) hb)
      have hn0 : ((newP l).2 == 0) = false := by simpa using hn
      have hn1 : ((newP l).2 != 0) = true := by simpa using hn
      clear hb
      go_wp2_with fail
      refine (check_any' A c l _ (Kd.C_below HR.out HB2.out) HC.out (by omega)).mono ?_
      rintro e w3 ⟨rfl, ⟨n2, rfl⟩⟩
      go_wp2_with fail
      refine (awake_any _).mono ?_
      rintro e w1 ⟨rfl, hb⟩
      go_wp2
      go_ret
      exact ⟨rfl, bt_ (pw_below_drewN HB2.out _) hb⟩
end Go.Proofs.Ytphdbombgljamaa.Mk
