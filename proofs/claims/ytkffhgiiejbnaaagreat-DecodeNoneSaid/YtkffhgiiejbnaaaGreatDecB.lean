/- What is held back; no condition but a bound on the text. -/
import Derived.Test.YtkffhgiiejbnaaaGreatRfx0
import Derived.Test.YtkffhgiiejbnaaaGreatHp
namespace Go.Proofs.YtkffhgiiejbnaaaGreat.Rf
open Go.RowKit Go.Proofs.YtkffhgiiejbnaaaGreatW.PrintWords Go.Proofs.YtkffhgiiejbnaaaGreatW.PrintLast Go.Proofs.YtkffhgiiejbnaaaGreatW.PrintMore
attribute [local go_sem] max2_int min2_int max_two min_two max_three min_three max_four min_four   -- for this text's walks alone
set_option linter.unusedVariables false
set_option linter.unusedSimpArgs false

/-! ### decode_goes: function 75 -/
def decode_goes.l0 : Nat → ByteArray → Int → Int → Option (Bool)
  | 0, _, _, _ => none
  | k + 1, x0, x5, x6 => if x6 < x5 then (if 0 ≤ x6 then (if x6 < (x0.size : Int) then (if ((bt x0 x6) / 64) = 2 then (decode_goes.l0 k x0 x5 (wrap64 (x6 + 1))) else (some false)) else (none)) else (none)) else (some true)
def decode_goes.f (k : Nat) (a0 : ByteArray) : Option (Bool) := decode_goes.l0 k a0 (a0.size : Int) 0
theorem decode_goes.mono_l : ∀ k, (∀ y0 y1 y2, LeO (decode_goes.l0 k y0 y1 y2) (decode_goes.l0 (k + 1) y0 y1 y2))
  | 0 => fun _ _ _ r h => by simp [decode_goes.l0] at h
  | k + 1 => by
    have ih0 := decode_goes.mono_l k
    · intro y0 y1 y2
      unfold decode_goes.l0
      repeat' first
      | (with_reducible exact ih0 _ _ _)
      | (with_reducible exact LeO.refl _)
      | (with_reducible exact LeO.none _)
      | (with_reducible refine LeO.ite ?_ ?_)
      | (with_reducible refine LeO.bind ?_ (fun _ => ?_))
      | exact ih0 _ _ _
      | exact LeO.none _
      | refine LeO.ite ?_ ?_
      | refine LeO.bind ?_ (fun _ => ?_)
theorem decode_goes.mono : ∀ a0 k, LeO (decode_goes.f k a0) (decode_goes.f (k + 1) a0) := by
  intro a0 k
  have ih0 := decode_goes.mono_l k
  unfold decode_goes.f
  repeat' first
      | (with_reducible exact ih0 _ _ _)
      | (with_reducible exact LeO.refl _)
      | (with_reducible exact LeO.none _)
      | (with_reducible refine LeO.ite ?_ ?_)
      | (with_reducible refine LeO.bind ?_ (fun _ => ?_))
      | exact ih0 _ _ _
      | exact LeO.none _
      | refine LeO.ite ?_ ?_
      | refine LeO.bind ?_ (fun _ => ?_)
set_option maxHeartbeats 8000000 in
set_option maxRecDepth 100000 in
theorem decode_goes.calls (k : Nat) (a0 : ByteArray) (r : Bool) (w : World) (h : decode_goes.f k a0 = some r) :
    Calls Tryz.prog 75 #[.string a0] w fun e w' => e = .returned (.bool r) ∧ Drawn0 w w' := by
  have H : (decode_goes.l0 k a0 (a0.size : Int) 0) = some r := h
  clear h
  have H' := Aside0.mk H
  clear H
  go_enter Tryz.func75, Tryz.ntmps75
  go_wp2
  go_loopg [6] k (fun kq v6 w' => ∃ (x6_1 : Int), v6 = .int .i64 x6_1 ∧ Aside0 (decode_goes.l0 kq a0 (a0.size : Int) x6_1 = some r) ∧ Aside0 (kq ≤ k) ∧ Drawn0 w w')
  case atStart => exact ⟨(0), (by first | rfl | (simp; done) | (simp [*]; done)), H', ⟨Nat.le_refl _⟩, by repeat (first | exact Drawn0.refl _ | apply Drawn0.step)⟩
  case round =>
    clear H'
    obtain ⟨x6_1, rfl, HA, HK1, ⟨m1, rfl⟩⟩ := hrel
    cases gk with
    | zero => exact absurd HA.out (by simp [decode_goes.l0])
    | succ k1 =>
      have H := HA.out
      clear HA
      simp only [decode_goes.l0] at H
      by_cases c2 : x6_1 < (a0.size : Int)
      · rw [if_pos c2] at H
        have c2b0 : decide (x6_1 < (a0.size : Int)) = true := decide_eq_true c2
        clear c2
        by_cases c3 : 0 ≤ x6_1
        · rw [if_pos c3] at H
          have c3b0 : decide (0 ≤ x6_1) = true := decide_eq_true c3
          clear c3
          by_cases c4 : x6_1 < (a0.size : Int)
          · rw [if_pos c4] at H
            have c4b0 : decide (x6_1 < (a0.size : Int)) = true := decide_eq_true c4
            clear c4
            by_cases c6 : ((bt a0 x6_1) / 64) = 2
            · rw [if_pos c6] at H
              have c6b0 : (((bt a0 x6_1) / 64) == 2) = true := beq_iff_eq.mpr c6
              have c6b1 : (((bt a0 x6_1) / 64) != 2) = false := bne_eq_false_iff_eq.mpr c6
              clear c6
              have H' := Aside0.mk H
              clear H
              have p5 : 0 ≤ (x6_1 : Int) := of_decide_eq_true (by first | (with_reducible assumption) | assumption)
              have q5 : x6_1 < (a0.size : Int) := of_decide_eq_true (by first | (with_reducible assumption) | assumption)
              have hx5 := bt_at a0 x6_1
              replace p5 := eq_true p5
              replace q5 := eq_true q5
              go_wp2
              go_roundg k1
              case measure => have := HK1.out; omega
              case rel => exact ⟨(wrap64 (x6_1 + 1)), (by first | rfl | (simp; done) | (simp [*]; done)), H', ⟨by have := HK1.out; omega⟩, by repeat (first | exact Drawn0.refl _ | apply Drawn0.step)⟩
            · rw [if_neg c6] at H
              have c6b0 : (((bt a0 x6_1) / 64) == 2) = false := beq_eq_false_iff_ne.mpr c6
              have c6b1 : (((bt a0 x6_1) / 64) != 2) = true := bne_iff_ne.mpr c6
              obtain rfl := Option.some.inj H
              have p5 : 0 ≤ (x6_1 : Int) := of_decide_eq_true (by first | (with_reducible assumption) | assumption)
              have q5 : x6_1 < (a0.size : Int) := of_decide_eq_true (by first | (with_reducible assumption) | assumption)
              have hx5 := bt_at a0 x6_1
              replace p5 := eq_true p5
              replace q5 := eq_true q5
              go_wp2
              go_ret
              exact ⟨by first | rfl | (simp; done) | (simp [*]; done), by repeat (first | exact Drawn0.refl _ | apply Drawn0.step)⟩
          · rw [if_neg c4] at H
            exact absurd H (by simp)
        · rw [if_neg c3] at H
          exact absurd H (by simp)
      · rw [if_neg c2] at H
        have c2b0 : decide (x6_1 < (a0.size : Int)) = false := decide_eq_false c2
        clear c2
        obtain rfl := Option.some.inj H
        go_wp2
        go_ret
        exact ⟨by first | rfl | (simp; done) | (simp [*]; done), by repeat (first | exact Drawn0.refl _ | apply Drawn0.step)⟩
end Go.Proofs.YtkffhgiiejbnaaaGreat.Rf
namespace Go.Proofs.YtkffhgiiejbnaaaGreat.Rf
open Go.RowKit Go.Proofs.YtkffhgiiejbnaaaGreatW.PrintWords Go.Proofs.YtkffhgiiejbnaaaGreatW.PrintLast Go.Proofs.YtkffhgiiejbnaaaGreatW.PrintMore
attribute [local go_sem] max2_int min2_int max_two min_two max_three min_three max_four min_four   -- for this text's walks alone
set_option linter.unusedVariables false
set_option linter.unusedSimpArgs false

/-! ### decode_need: function 74 -/
def decode_need.f (a0 : Int) : Option (Int) := if (a0 / 32) = 6 then (some 2) else (if (a0 / 16) = 14 then (some 3) else (if (a0 / 8) = 30 then (some 4) else (some 0)))
set_option maxHeartbeats 8000000 in
set_option maxRecDepth 100000 in
theorem decode_need.calls (a0 : Int) (r : Int) (w : World) (h : decode_need.f a0 = some r) :
    Calls Tryz.prog 74 #[.int .u8 a0] w fun e w' => e = .returned (.int .i64 r) ∧ Drawn0 w w' := by
  have H : (if (a0 / 32) = 6 then (some 2) else (if (a0 / 16) = 14 then (some 3) else (if (a0 / 8) = 30 then (some 4) else (some 0)))) = some r := h
  clear h
  by_cases c2 : (a0 / 32) = 6
  · rw [if_pos c2] at H
    have c2b0 : ((a0 / 32) == 6) = true := beq_iff_eq.mpr c2
    have c2b1 : ((a0 / 32) != 6) = false := bne_eq_false_iff_eq.mpr c2
    clear c2
    obtain rfl := Option.some.inj H
    go_enter Tryz.func74, Tryz.ntmps74
    go_wp2
    go_ret
    exact ⟨by first | rfl | (simp; done) | (simp [*]; done), by repeat (first | exact Drawn0.refl _ | apply Drawn0.step)⟩
  · rw [if_neg c2] at H
    have c2b0 : ((a0 / 32) == 6) = false := beq_eq_false_iff_ne.mpr c2
    have c2b1 : ((a0 / 32) != 6) = true := bne_iff_ne.mpr c2
    by_cases c3 : (a0 / 16) = 14
    · rw [if_pos c3] at H
      have c3b0 : ((a0 / 16) == 14) = true := beq_iff_eq.mpr c3
      have c3b1 : ((a0 / 16) != 14) = false := bne_eq_false_iff_eq.mpr c3
      clear c3
      obtain rfl := Option.some.inj H
      go_enter Tryz.func74, Tryz.ntmps74
      go_wp2
      go_ret
      exact ⟨by first | rfl | (simp; done) | (simp [*]; done), by repeat (first | exact Drawn0.refl _ | apply Drawn0.step)⟩
    · rw [if_neg c3] at H
      have c3b0 : ((a0 / 16) == 14) = false := beq_eq_false_iff_ne.mpr c3
      have c3b1 : ((a0 / 16) != 14) = true := bne_iff_ne.mpr c3
      by_cases c4 : (a0 / 8) = 30
      · rw [if_pos c4] at H
        have c4b0 : ((a0 / 8) == 30) = true := beq_iff_eq.mpr c4
        have c4b1 : ((a0 / 8) != 30) = false := bne_eq_false_iff_eq.mpr c4
        clear c4
        obtain rfl := Option.some.inj H
        go_enter Tryz.func74, Tryz.ntmps74
        go_wp2
        go_ret
        exact ⟨by first | rfl | (simp; done) | (simp [*]; done), by repeat (first | exact Drawn0.refl _ | apply Drawn0.step)⟩
      · rw [if_neg c4] at H
        have c4b0 : ((a0 / 8) == 30) = false := beq_eq_false_iff_ne.mpr c4
        have c4b1 : ((a0 / 8) != 30) = true := bne_iff_ne.mpr c4
        obtain rfl := Option.some.inj H
        go_enter Tryz.func74, Tryz.ntmps74
        go_wp2
        go_ret
        exact ⟨by first | rfl | (simp; done) | (simp [*]; done), by repeat (first | exact Drawn0.refl _ | apply Drawn0.step)⟩
end Go.Proofs.YtkffhgiiejbnaaaGreat.Rf
namespace Go.Proofs.YtkffhgiiejbnaaaGreat.Dc
open Go.RowKit Go.Proofs.YtkffhgiiejbnaaaGreatW.PrintWords Go.Proofs.YtkffhgiiejbnaaaGreatW.PrintLast Go.Proofs.YtkffhgiiejbnaaaGreatW.PrintMore Go.Proofs.YtkffhgiiejbnaaaGreat.Rf Go.Proofs.YtkffhgiiejbnaaaGreat.Aid Go.Proofs.YtkffhgiiejbnaaaGreat.Mp Go.Proofs.YtkffhgiiejbnaaaGreat.Hp
attribute [local go_sem] Aid.max_two Aid.min_two min2_mn max2_mx
set_option linter.unusedVariables false
set_option linter.unusedSimpArgs false
set_option maxHeartbeats 400000

def ndI (b : Int) : Int := if b / 32 = 6 then 2 else if b / 16 = 14 then 3 else if b / 8 = 30 then 4 else 0
theorem need_some (b : Int) : decode_need.f b = some (ndI b) := by
  unfold decode_need.f ndI
  split
  · rfl
  · split
    · rfl
    · split <;> rfl
theorem goes_run (T : ByteArray) (hT : T.size ≤ 1000000000) : ∀ (d k i : Nat), T.size - i = d → d < k → i ≤ T.size → decode_goes.l0 k T (T.size : Int) (i : Int) = some ((List.range T.size).drop i |>.all fun j => decide (bt T (j : Int) / 64 = 2))
  | 0, k, i, h0, h1, h2 => by
    obtain ⟨k, rfl⟩ : ∃ m, k = m + 1 := ⟨k - 1, by omega⟩
    simp only [decode_goes.l0]
    rw [if_neg (by omega), List.drop_eq_nil_of_le (by simp; omega)]; rfl
  | d + 1, k, i, h0, h1, h2 => by
    obtain ⟨k, rfl⟩ : ∃ m, k = m + 1 := ⟨k - 1, by omega⟩
    simp only [decode_goes.l0]
    rw [if_pos (by omega), if_pos (by omega), if_pos (by omega), List.drop_eq_getElem_cons (by simp; omega), List.all_cons]
    simp only [List.getElem_range]
    by_cases hx : bt T (i : Int) / 64 = 2
    · rw [if_pos hx, w64 (by omega) (by omega), show ((i : Int) + 1) = ((i + 1 : Nat) : Int) from by omega, goes_run T hT d k (i + 1) (by omega) (by omega) (by omega), decide_eq_true hx, Bool.true_and]
    · rw [if_neg hx, decide_eq_false hx, Bool.false_and]
def goB (T : ByteArray) : Bool := (List.range T.size).all fun j => decide (bt T (j : Int) / 64 = 2)
theorem goes_some (T : ByteArray) (hT : T.size ≤ 1000000000) : decode_goes.f (T.size + 1) T = some (goB T) := goes_run T hT T.size (T.size + 1) 0 (by omega) (by omega) (by omega)
/-- the last so many bytes -/
def tailB (s : ByteArray) (n : Nat) : ByteArray := s.extract (s.size - n) s.size
theorem tailB_size {s : ByteArray} {n : Nat} (h : n ≤ s.size) : (tailB s n).size = n := by unfold tailB; rw [ByteArray.size_extract]; omega
def holdsB (s : ByteArray) (n : Nat) : Bool := decide ((n : Int) < ndI (bt (tailB s n) 0)) && goB ((tailB s n).extract 1 (tailB s n).size)
def heldN (s : ByteArray) : Nat → Nat
  | 0 => 0
  | n + 1 => if holdsB s (n + 1) = true then n + 1 else heldN s n
def heldF (s : ByteArray) : Nat := heldN s (min 3 s.size)
theorem heldN_le (s : ByteArray) : ∀ n, heldN s n ≤ n
  | 0 => Nat.le_refl _
  | n + 1 => by unfold heldN; split; exact Nat.le_refl _; exact Nat.le_succ_of_le (heldN_le s n)
theorem heldF_le (s : ByteArray) : heldF s ≤ s.size := Nat.le_trans (heldN_le s _) (Nat.min_le_right _ _)
theorem slice_str (s : ByteArray) (q : Nat) (h : q ≤ s.size) (W : World) : (Instr.slice 9 (.string s) (some (.int .i64 (q : Int))) none none).run Tryz.prog W = .ok (.string (s.extract q s.size)) W := by
  have h1 : (q : Int) ≤ (s.size : Int) := by omega
  simp [Instr.slice, run_underlying Tryz.underlying9, go_sem, Result.andThen, h1, h]

set_option maxRecDepth 100000 in
theorem held_any (s : ByteArray) (hs : s.size ≤ 1000000000) (w : World) : Calls Tryz.prog 31 #[.string s] w fun e w' => e = .returned (.int .i64 (heldF s : Int)) ∧ Below w.heap.size w w' := by
  have HF0 := As.mk (show heldN s (min 3 s.size) = heldF s from rfl)
  generalize heldF s = R at *
  have hmn : mnI 3 (s.size : Int) = ((min 3 s.size : Nat) : Int) := by unfold mnI; split <;> omega
  have HM : min 3 s.size ≤ s.size := Nat.min_le_right _ _
  generalize min 3 s.size = N at *
  go_enter Tryz.func31, Tryz.ntmps31
  go_wp2
  go_loopg [3] N (fun k v w' => ∃ (n : Nat), v = .int .i64 n ∧ n ≤ s.size ∧ As (n ≤ k) ∧ As (heldN s n = R) ∧ As (Below w.heap.size w w'))
  case atStart => exact ⟨N, rfl, HM, ⟨Nat.le_refl _⟩, HF0, ⟨Below.refl _ _⟩⟩
  case round =>
    clear HF0
    obtain ⟨n, rfl, hn, HK, HF, HB⟩ := hrel
    cases n with
    | zero =>
      have hA : 0 = R := HF.out
      subst hA
      go_wp2
      go_ret
      exact ⟨rfl, HB.out⟩
    | succ n =>
      obtain ⟨k1, rfl⟩ : ∃ k1, gk = k1 + 1 := ⟨gk - 1, by have := HK.out; omega⟩
      have hnI : (0 : Int) < ((n + 1 : Nat) : Int) := by omega
      obtain ⟨q, hq⟩ : ∃ q, s.size = q + (n + 1) := ⟨s.size - (n + 1), by omega⟩
      have hsl := slice_str s q (by omega)
      have hT : s.extract q s.size = tailB s (n + 1) := by unfold tailB; congr 1; omega
      have hTs := tailB_size (s := s) (n := n + 1) hn
      rw [hT] at hsl
      have hA := HF.out
      unfold heldN holdsB at hA
      have hsl2 : ∀ W : World, (Instr.slice 9 (.string (tailB s (n + 1))) (some (.int .i64 1)) none none).run Tryz.prog W = .ok (.string ((tailB s (n + 1)).extract 1 (tailB s (n + 1)).size)) W := slice_str (tailB s (n + 1)) 1 (by omega)
      generalize tailB s (n + 1) = T at *
      have hx8 : ∀ h : 0 < T.size, ((T[0]'h).toNat : Int) = bt T 0 := bt_at T 0
      have HG := As.mk (fun W => decode_goes.calls _ _ (goB (T.extract 1 T.size)) W (goes_some (T.extract 1 T.size) (by rw [ByteArray.size_extract]; omega)))
      have HN := As.mk (fun W => decode_need.calls (bt T 0) _ W (need_some (bt T 0)))
      generalize T.extract 1 T.size = T2 at *
      have q8 : 0 < T.size := by omega
      have q9 : (0 : Int) < (T.size : Int) := by omega
      have hA := As.mk hA
      have hK := HK.out
      clear HK HF hTs hT
      generalize ndI (bt T 0) = z at *
      generalize goB T2 = g at *
      obtain ⟨m, hm⟩ : ∃ m, m = n + 1 := ⟨_, rfl⟩
      rw [← hm] at hA hnI hq hn
      have hwq1 : (0 : Int) ≤ (q : Int) := by omega
      have hqb : (q : Int) ≤ 1000000000 := by omega
      have HH := As.mk (And.intro hm (And.intro hK (And.intro hq hs)))
      have hgo : ((n + 1 : Nat) : Int) = (m : Int) := by rw [hm]
      rw [hgo]
      clear hgo hm hK hn hs
      by_cases hz1 : (m : Int) < z
      · rw [decide_eq_true hz1, Bool.true_and] at hA
        cases g with
        | true =>
          rw [if_pos rfl] at hA
          have HA' := As.mk hA.out
          clear hA
          go_wp2_with (first
            | (go_at_call 74; refine (HN.out _).mono ?_; rintro e w1 ⟨rfl, hd⟩; obtain ⟨n1, rfl⟩ := hd.out; clear hd)
            | (go_at_call 75; refine (HG.out _).mono ?_; rintro e w2 ⟨rfl, hd⟩; obtain ⟨n2, rfl⟩ := hd.out; clear hd))
          go_ret
          rw [← HA'.out]
          exact ⟨rfl, pw_below_drewN HB.out _⟩
        | false =>
          rw [if_neg (by decide)] at hA
          have HA' := As.mk hA.out
          clear hA
          go_wp2_with (first
            | (go_at_call 74; refine (HN.out _).mono ?_; rintro e w1 ⟨rfl, hd⟩; obtain ⟨n1, rfl⟩ := hd.out; clear hd)
            | (go_at_call 75; refine (HG.out _).mono ?_; rintro e w2 ⟨rfl, hd⟩; obtain ⟨n2, rfl⟩ := hd.out; clear hd))
          have e6 : (q : Int) + (m : Int) = (s.size : Int) := by have := HH.out.2.2.1; omega
          rw [e6]
          clear e6 hq
          go_roundg k1
          case measure => omega
          case rel => exact ⟨n, by have h := HH.out; rw [w64 (by omega) (by omega)]; congr 1; omega, by have h := HH.out; omega, ⟨by have h := HH.out; omega⟩, HA', ⟨pw_below_drewN HB.out _⟩⟩
      · rw [decide_eq_false hz1, Bool.false_and, if_neg (by decide)] at hA
        have HA' := As.mk hA.out
        have hz2 : decide ((m : Int) < z) = false := decide_eq_false hz1
        clear hA
        go_wp2_with (go_at_call 74; refine (HN.out _).mono ?_; rintro e w1 ⟨rfl, hd⟩; obtain ⟨n1, rfl⟩ := hd.out; clear hd)
        have e6 : (q : Int) + (m : Int) = (s.size : Int) := by have := HH.out.2.2.1; omega
        rw [e6]
        clear e6 hq
        go_roundg k1
        case measure => omega
        case rel => exact ⟨n, by have h := HH.out; rw [w64 (by omega) (by omega)]; congr 1; omega, by have h := HH.out; omega, ⟨by have h := HH.out; omega⟩, HA', ⟨pw_below_drewN HB.out _⟩⟩
end Go.Proofs.YtkffhgiiejbnaaaGreat.Dc
