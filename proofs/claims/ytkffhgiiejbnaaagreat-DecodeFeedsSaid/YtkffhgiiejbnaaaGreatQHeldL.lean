import Derived.Test.YtkffhgiiejbnaaaGreatQDecB
set_option linter.unusedVariables false
set_option linter.unusedSimpArgs false
namespace Go.Proofs.YtkffhgiiejbnaaaGreat.Dc
open Go.RowKit Go.Proofs.YtkffhgiiejbnaaaGreatW.PrintWords Go.Proofs.YtkffhgiiejbnaaaGreatW.PrintLast Go.Proofs.YtkffhgiiejbnaaaGreatW.PrintMore Go.Proofs.YtkffhgiiejbnaaaGreat.Rf Go.Proofs.YtkffhgiiejbnaaaGreat.Aid Go.Proofs.YtkffhgiiejbnaaaGreat.Mp Go.Proofs.YtkffhgiiejbnaaaGreat.Hp
attribute [local go_sem] Aid.max_two Aid.min_two min2_mn max2_mx
set_option linter.unusedVariables false
set_option linter.unusedSimpArgs false
set_option maxHeartbeats 400000
def onR (T : ByteArray) : Nat → Bool
  | 0 => true
  | i + 1 => onR T i && decide (bt T ((i + 1 : Nat) : Int) / 64 = 2)
theorem onR_goB (T : ByteArray) (h : 0 < T.size) : onR T (T.size - 1) = goB (T.extract 1 T.size) := by
  have hs : (T.extract 1 T.size).size = T.size - 1 := by rw [ByteArray.size_extract]; omega
  have hb : ∀ j, j < T.size - 1 → bt (T.extract 1 T.size) (j : Int) = bt T ((j + 1 : Nat) : Int) := fun j hj => by
    have h1 : j < (T.extract 1 T.size).size := by omega
    have h2 : j + 1 < T.size := by omega
    unfold bt
    rw [Int.toNat_natCast, Int.toNat_natCast, dif_pos h1, dif_pos h2, ByteArray.getElem_extract]
    simp only [Nat.add_comm]
  unfold goB
  rw [hs]
  have key : ∀ n, n ≤ T.size - 1 → onR T n = (List.range n).all fun j => decide (bt (T.extract 1 T.size) (j : Int) / 64 = 2) := by
    intro n
    induction n with
    | zero => intro _; rfl
    | succ n ih =>
      intro hn
      rw [List.range_succ, List.all_append, ← ih (by omega)]
      simp only [onR, List.all_cons, List.all_nil, Bool.and_true]
      rw [hb n (by omega)]
  exact key _ (Nat.le_refl _)
theorem ndI_cases (b : Int) (h0 : 0 ≤ b) (h1 : b ≤ 255) : (b < 192 ∧ ndI b = 0) ∨ ((192 ≤ b ∧ b < 224) ∧ ndI b = 2) ∨ ((224 ≤ b ∧ b < 240) ∧ ndI b = 3) ∨ ((240 ≤ b ∧ b < 248) ∧ ndI b = 4) ∨ (248 ≤ b ∧ ndI b = 0) := by
  unfold ndI
  by_cases a1 : b / 32 = 6
  · rw [if_pos a1]; omega
  rw [if_neg a1]
  by_cases a2 : b / 16 = 14
  · rw [if_pos a2]; omega
  rw [if_neg a2]
  by_cases a3 : b / 8 = 30
  · rw [if_pos a3]; omega
  rw [if_neg a3]
  omega
set_option maxRecDepth 100000 in
set_option maxHeartbeats 4000000 in
theorem heldL_any (s : ByteArray) (hs : s.size ≤ 1000000000) (w : World) : Calls Tryz.prog 32 #[.string s] w fun e w' => e = .returned (.int .i64 (heldF s : Int)) ∧ w = w' := by
  have HF0 := As.mk (show heldN s (min 3 s.size) = heldF s from rfl)
  generalize heldF s = R at *
  go_enter Tryz.func32, Tryz.ntmps32
  go_wp2
  go_loopg [3] 3 (fun k v w' => ∃ (n : Nat), v = .int .i64 n ∧ n ≤ 3 ∧ As (n ≤ k) ∧ As (heldN s (min n s.size) = R) ∧ As (w = w'))
  case atStart => exact ⟨3, rfl, by omega, ⟨by omega⟩, HF0, ⟨rfl⟩⟩
  case round =>
    clear HF0
    obtain ⟨n, rfl, hn, HK, HF, HW⟩ := hrel
    have hW := HW.out
    subst hW
    clear HW
    cases n with
    | zero =>
      have hA : 0 = R := by have h := HF.out; rw [Nat.zero_min] at h; exact h
      subst hA
      go_wp2
      go_ret
      exact ⟨rfl, rfl⟩
    | succ n =>
      obtain ⟨k1, rfl⟩ : ∃ k1, gk = k1 + 1 := ⟨gk - 1, by have := HK.out; omega⟩
      have hnI : (0 : Int) < ((n + 1 : Nat) : Int) := by omega
      by_cases hsz : s.size < n + 1
      · have hszI : (s.size : Int) < ((n + 1 : Nat) : Int) := by omega
        have HF' := As.mk (show heldN s (min n s.size) = R from by have h := HF.out; rw [Nat.min_eq_right (by omega)] at h ⊢; exact h)
        clear HF hsz
        obtain ⟨m, hm⟩ : ∃ m, m = n + 1 := ⟨_, rfl⟩
        rw [← hm] at hnI hszI ⊢
        have HMM := As.mk hm
        have hmb : (m : Int) ≤ 3 := by omega
        clear hm hn
        go_wp2
        go_roundg k1
        case measure => omega
        case rel => exact ⟨n, by have h := HMM.out; congr 1; omega, by have h := HMM.out; omega, ⟨by have h := HK.out; omega⟩, HF', ⟨rfl⟩⟩
      · have hszI : ¬ (s.size : Int) < ((n + 1 : Nat) : Int) := by omega
        obtain ⟨q, hq⟩ : ∃ q, s.size = q + (n + 1) := ⟨s.size - (n + 1), by omega⟩
        have hsl := slice_str s q (by omega)
        have hT : s.extract q s.size = tailB s (n + 1) := by unfold tailB; congr 1; omega
        have hTs := tailB_size (s := s) (n := n + 1) (by omega)
        rw [hT] at hsl
        have hA := HF.out
        rw [Nat.min_eq_left (by omega)] at hA
        have hmn : min n s.size = n := Nat.min_eq_left (by omega)
        unfold heldN holdsB at hA
        have hon := onR_goB (tailB s (n + 1)) (by omega)
        generalize tailB s (n + 1) = T at *
        have hx8 : ∀ h : 0 < T.size, ((T[0]'h).toNat : Int) = bt T 0 := bt_at T 0
        have hbr := bt_range T 0
        have hcs := ndI_cases (bt T 0) hbr.1 hbr.2
        rw [← hon, hTs, Nat.add_sub_cancel] at hA
        have HA := As.mk hA
        have HMN := As.mk hmn
        clear hon hA hT hmn HF
        obtain ⟨m, hm⟩ : ∃ m, m = n + 1 := ⟨_, rfl⟩
        rw [← hm] at hnI hszI hq hTs HA ⊢
        have HMM := As.mk (And.intro hm (And.intro HK.out hn))
        have hgo : ((n + 1 : Nat) : Int) = (m : Int) := by rw [hm]
        try rw [hgo]
        clear hgo
        have hwq1 : (0 : Int) ≤ (q : Int) := by omega
        have hqb : (q : Int) ≤ 1000000000 := by omega
        have hmb : (m : Int) ≤ 3 := by omega
        have hTI : (T.size : Int) = (m : Int) := by omega
        have HS := As.mk (And.intro hs (And.intro hq hTs))
        have q8 : 0 < T.size := by omega
        clear hm hn hs HK hTs
        generalize ndI (bt T 0) = z at *
        generalize hB0 : bt T 0 = b0 at *
        have hD : ((m : Int) < z ∧ onR T n = true ∧ m = R) ∨ (onR T n = false ∧ heldN s n = R) ∨ (onR T n = true ∧ ¬ ((m : Int) < z) ∧ heldN s n = R) := by
          have hA := HA.out
          cases ho : onR T n with
          | false => rw [ho, Bool.and_false, if_neg (by decide)] at hA; exact .inr (.inl ⟨rfl, hA⟩)
          | true =>
            rw [ho, Bool.and_true] at hA
            by_cases hz : (m : Int) < z
            · rw [if_pos (decide_eq_true hz)] at hA; exact .inl ⟨hz, rfl, hA⟩
            · rw [if_neg (by simpa using hz)] at hA; exact .inr (.inr ⟨rfl, hz, hA⟩)
        have HD := As.mk hD
        clear hD HA
        rcases hcs with ⟨a1, rfl⟩ | ⟨⟨a1, a2⟩, rfl⟩ | ⟨⟨a1, a2⟩, rfl⟩ | ⟨⟨a1, a2⟩, rfl⟩ | ⟨a1, rfl⟩
        all_goals
          go_wp2
          go_loopg [6, 7] n (fun k v6 v7 w' => ∃ (j : Nat), v6 = .bool (onR T j) ∧ v7 = .int .i64 ((j : Int) + 1) ∧ j ≤ n ∧ As (n ≤ j + k) ∧ As (w = w'))
          case atStart => exact ⟨0, rfl, rfl, by omega, ⟨by omega⟩, ⟨rfl⟩⟩
          case round =>
            obtain ⟨j, rfl, rfl, hj, HJ, HW⟩ := hrel
            have hW := HW.out
            subst hW
            clear HW
            by_cases hlt : j < n
            · obtain ⟨k2, rfl⟩ : ∃ k2, gk = k2 + 1 := ⟨gk - 1, by have := HJ.out; omega⟩
              have hm1 := HMM.out.1
              have hltI : (j : Int) + 1 < (m : Int) := by omega
              have hxj : ∀ h : j + 1 < T.size, ((T[j + 1]'h).toNat : Int) = bt T ((j + 1 : Nat) : Int) := fun h => by have := bt_at T ((j + 1 : Nat) : Int) (by rw [Int.toNat_natCast]; exact h); simpa using this
              have hjn : ((j : Int) + 1).toNat = j + 1 := by omega
              have hj0 : (0 : Int) ≤ (j : Int) + 1 := by omega
              have hjT : j + 1 < T.size := by have := HS.out.2.2; omega
              have hjTI : (j : Int) + 1 < (T.size : Int) := by omega
              have hjb : (j : Int) ≤ 3 := by omega
              have hrj := bt_range T ((j + 1 : Nat) : Int)
              have hON : onR T (j + 1) = (onR T j && decide (bt T ((j + 1 : Nat) : Int) / 64 = 2)) := rfl
              have HLT := As.mk hlt
              clear hm1 hlt
              generalize bt T ((j + 1 : Nat) : Int) = bj at *
              cases ho : onR T j with
              | false =>
                rw [ho, Bool.false_and] at hON
                have HON := As.mk hON
                clear hON ho
                go_wp2
                go_roundg k2
                case measure => omega
                case rel => exact ⟨j + 1, by rw [HON.out], by congr 1, by have := HLT.out; omega, ⟨by have := HJ.out; omega⟩, ⟨rfl⟩⟩
              | true =>
                rw [ho, Bool.true_and] at hON
                by_cases b1 : bj < 128
                · rw [decide_eq_false (by omega)] at hON
                  have HON := As.mk hON
                  clear hON ho
                  go_wp2
                  go_roundg k2
                  case measure => omega
                  case rel => exact ⟨j + 1, by rw [HON.out], by congr 1, by have := HLT.out; omega, ⟨by have := HJ.out; omega⟩, ⟨rfl⟩⟩
                · by_cases b2 : bj < 192
                  · rw [decide_eq_true (by omega)] at hON
                    have HON := As.mk hON
                    have b1' : 128 ≤ bj := by omega
                    clear hON ho
                    go_wp2
                    go_roundg k2
                    case measure => omega
                    case rel => exact ⟨j + 1, by rw [HON.out], by congr 1, by have := HLT.out; omega, ⟨by have := HJ.out; omega⟩, ⟨rfl⟩⟩
                  · rw [decide_eq_false (by omega)] at hON
                    have HON := As.mk hON
                    have b1' : 128 ≤ bj := by omega
                    have b2' : 192 ≤ bj := by omega
                    clear hON ho
                    go_wp2
                    go_roundg k2
                    case measure => omega
                    case rel => exact ⟨j + 1, by rw [HON.out], by congr 1, by have := HLT.out; omega, ⟨by have := HJ.out; omega⟩, ⟨rfl⟩⟩
            · obtain rfl : j = n := by omega
              have hA := HD.out
              have hm1 := HMM.out.1
              have hltI : ¬ ((j : Int) + 1 < (m : Int)) := by omega
              have hjb : (j : Int) ≤ 3 := by omega
              clear hm1 hlt
              rcases hA with ⟨h1, h2, h3⟩ | ⟨h2, h3⟩ | ⟨h2, h1, h3⟩
              · first
                | (exfalso; omega)
                | (rw [h2]
                   subst h3
                   clear h2
                   go_wp2
                   go_ret
                   exact ⟨rfl, rfl⟩)
              · rw [h2]
                have HR := As.mk h3
                clear h2 h3
                go_wp2
                all_goals
                  go_roundg k1
                  case measure => omega
                  case rel => exact ⟨j, by have h := HMM.out; congr 1; omega, by have h := HMM.out; omega, ⟨by have h := HMM.out; omega⟩, ⟨by rw [HMN.out]; exact HR.out⟩, ⟨rfl⟩⟩
              · rw [h2]
                have HR := As.mk h3
                clear h2 h3
                go_wp2
                all_goals
                  go_roundg k1
                  case measure => omega
                  case rel => exact ⟨j, by have h := HMM.out; congr 1; omega, by have h := HMM.out; omega, ⟨by have h := HMM.out; omega⟩, ⟨by rw [HMN.out]; exact HR.out⟩, ⟨rfl⟩⟩
end Go.Proofs.YtkffhgiiejbnaaaGreat.Dc
