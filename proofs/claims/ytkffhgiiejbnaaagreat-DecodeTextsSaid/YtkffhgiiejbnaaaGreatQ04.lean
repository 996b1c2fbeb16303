import Derived.Test.YtkffhgiiejbnaaaGreatQ01
namespace Go.Proofs.YtkffhgiiejbnaaaGreat.Rf
open Go.RowKit Go.Proofs.YtkffhgiiejbnaaaGreatW.PrintWords Go.Proofs.YtkffhgiiejbnaaaGreatW.PrintLast Go.Proofs.YtkffhgiiejbnaaaGreatW.PrintMore
attribute [local go_sem] max2_int min2_int max_two min_two max_three min_three max_four min_four
set_option linter.unusedVariables false
set_option linter.unusedSimpArgs false
def decode_need.f (a0 : Int) : Option (Int) := if (a0 / 32) = 6 then (some 2) else (if (a0 / 16) = 14 then (some 3) else (if (a0 / 8) = 30 then (some 4) else (some 0)))
set_option maxHeartbeats 8000000 in
set_option maxRecDepth 100000 in
theorem decode_need.calls (a0 : Int) (r : Int) (w : World) (h : decode_need.f a0 = some r) :
    Calls Tryz.prog 74 #[.int .u8 a0] w fun e w' => e = .returned (.int .i64 r) ∧ Drawn0 w w' := by
  have H : (if (a0 / 32) = 6 then (some 2) else (if (a0 / 16) = 14 then (some 3) else (if (a0 / 8) = 30 then (some 4) else (some 0)))) = some r := h
  clear h
  by_cases c2 : (a0 / 32) = 6
  · rw [if_pos c2] at H
    have c2b0 : ((a0 / 32) == 6) = true := beq_iff_eq.mpr c2
    have c2b1 : ((a0 / 32) != 6) = false := bne_eq_false_iff_eq.mpr c2
    clear c2
    obtain rfl := Option.some.inj H
    go_enter Tryz.func74, Tryz.ntmps74
    go_wp2
    go_ret
    exact ⟨by first | rfl | (simp; done) | (simp [*]; done), by repeat (first | exact Drawn0.refl _ | apply Drawn0.step)⟩
  · rw [if_neg c2] at H
    have c2b0 : ((a0 / 32) == 6) = false := beq_eq_false_iff_ne.mpr c2
    have c2b1 : ((a0 / 32) != 6) = true := bne_iff_ne.mpr c2
    by_cases c3 : (a0 / 16) = 14
    · rw [if_pos c3] at H
      have c3b0 : ((a0 / 16) == 14) = true := beq_iff_eq.mpr c3
      have c3b1 : ((a0 / 16) != 14) = false := bne_eq_false_iff_eq.mpr c3
      clear c3
      obtain rfl := Option.some.inj H
      go_enter Tryz.func74, Tryz.ntmps74
      go_wp2
      go_ret
      exact ⟨by first | rfl | (simp; done) | (simp [*]; done), by repeat (first | exact Drawn0.refl _ | apply Drawn0.step)⟩
    · rw [if_neg c3] at H
      have c3b0 : ((a0 / 16) == 14) = false := beq_eq_false_iff_ne.mpr c3
      have c3b1 : ((a0 / 16) != 14) = true := bne_iff_ne.mpr c3
      by_cases c4 : (a0 / 8) = 30
      · rw [if_pos c4] at H
        have c4b0 : ((a0 / 8) == 30) = true := beq_iff_eq.mpr c4
        have c4b1 : ((a0 / 8) != 30) = false := bne_eq_false_iff_eq.mpr c4
        clear c4
        obtain rfl := Option.some.inj H
        go_enter Tryz.func74, Tryz.ntmps74
        go_wp2
        go_ret
        exact ⟨by first | rfl | (simp; done) | (simp [*]; done), by repeat (first | exact Drawn0.refl _ | apply Drawn0.step)⟩
      · rw [if_neg c4] at H
        have c4b0 : ((a0 / 8) == 30) = false := beq_eq_false_iff_ne.mpr c4
        have c4b1 : ((a0 / 8) != 30) = true := bne_iff_ne.mpr c4
        obtain rfl := Option.some.inj H
        go_enter Tryz.func74, Tryz.ntmps74
        go_wp2
        go_ret
        exact ⟨by first | rfl | (simp; done) | (simp [*]; done), by repeat (first | exact Drawn0.refl _ | apply Drawn0.step)⟩
end Go.Proofs.YtkffhgiiejbnaaaGreat.Rf
namespace Go.Proofs.YtkffhgiiejbnaaaGreat.Rf
open Go.RowKit Go.Proofs.YtkffhgiiejbnaaaGreatW.PrintWords Go.Proofs.YtkffhgiiejbnaaaGreatW.PrintLast Go.Proofs.YtkffhgiiejbnaaaGreatW.PrintMore
attribute [local go_sem] max2_int min2_int max_two min_two max_three min_three max_four min_four
set_option linter.unusedVariables false
set_option linter.unusedSimpArgs false
def decode_goes.l0 : Nat → ByteArray → Int → Int → Option (Bool)
  | 0, _, _, _ => none
  | k + 1, x0, x5, x6 => if x6 < x5 then (if 0 ≤ x6 then (if x6 < (x0.size : Int) then (if ((bt x0 x6) / 64) = 2 then (decode_goes.l0 k x0 x5 (wrap64 (x6 + 1))) else (some false)) else (none)) else (none)) else (some true)
def decode_goes.f (k : Nat) (a0 : ByteArray) : Option (Bool) := decode_goes.l0 k a0 (a0.size : Int) 0
set_option maxHeartbeats 8000000 in
set_option maxRecDepth 100000 in
theorem decode_goes.calls (k : Nat) (a0 : ByteArray) (r : Bool) (w : World) (h : decode_goes.f k a0 = some r) :
    Calls Tryz.prog 75 #[.string a0] w fun e w' => e = .returned (.bool r) ∧ Drawn0 w w' := by
  have H : (decode_goes.l0 k a0 (a0.size : Int) 0) = some r := h
  clear h
  have H' := Aside0.mk H
  clear H
  go_enter Tryz.func75, Tryz.ntmps75
  go_wp2
  go_loopg [6] k (fun kq v6 w' => ∃ (x6_1 : Int), v6 = .int .i64 x6_1 ∧ Aside0 (decode_goes.l0 kq a0 (a0.size : Int) x6_1 = some r) ∧ Aside0 (kq ≤ k) ∧ Drawn0 w w')
  case atStart => exact ⟨(0), (by first | rfl | (simp; done) | (simp [*]; done)), H', ⟨Nat.le_refl _⟩, by repeat (first | exact Drawn0.refl _ | apply Drawn0.step)⟩
  case round =>
    clear H'
    obtain ⟨x6_1, rfl, HA, HK1, ⟨m1, rfl⟩⟩ := hrel
    cases gk with
    | zero => exact absurd HA.out (by simp [decode_goes.l0])
    | succ k1 =>
      have H := HA.out
      clear HA
      simp only [decode_goes.l0] at H
      by_cases c2 : x6_1 < (a0.size : Int)
      · rw [if_pos c2] at H
        have c2b0 : decide (x6_1 < (a0.size : Int)) = true := decide_eq_true c2
        clear c2
        by_cases c3 : 0 ≤ x6_1
        · rw [if_pos c3] at H
          have c3b0 : decide (0 ≤ x6_1) = true := decide_eq_true c3
          clear c3
          by_cases c4 : x6_1 < (a0.size : Int)
          · rw [if_pos c4] at H
            have c4b0 : decide (x6_1 < (a0.size : Int)) = true := decide_eq_true c4
            clear c4
            by_cases c6 : ((bt a0 x6_1) / 64) = 2
            · rw [if_pos c6] at H
              have c6b0 : (((bt a0 x6_1) / 64) == 2) = true := beq_iff_eq.mpr c6
              have c6b1 : (((bt a0 x6_1) / 64) != 2) = false := bne_eq_false_iff_eq.mpr c6
              clear c6
              have H' := Aside0.mk H
              clear H
              have p5 : 0 ≤ (x6_1 : Int) := of_decide_eq_true (by first | (with_reducible assumption) | assumption)
              have q5 : x6_1 < (a0.size : Int) := of_decide_eq_true (by first | (with_reducible assumption) | assumption)
              have hx5 := bt_at a0 x6_1
              replace p5 := eq_true p5
              replace q5 := eq_true q5
              go_wp2
              go_roundg k1
              case measure => have := HK1.out; omega
              case rel => exact ⟨(wrap64 (x6_1 + 1)), (by first | rfl | (simp; done) | (simp [*]; done)), H', ⟨by have := HK1.out; omega⟩, by repeat (first | exact Drawn0.refl _ | apply Drawn0.step)⟩
            · rw [if_neg c6] at H
              have c6b0 : (((bt a0 x6_1) / 64) == 2) = false := beq_eq_false_iff_ne.mpr c6
              have c6b1 : (((bt a0 x6_1) / 64) != 2) = true := bne_iff_ne.mpr c6
              obtain rfl := Option.some.inj H
              have p5 : 0 ≤ (x6_1 : Int) := of_decide_eq_true (by first | (with_reducible assumption) | assumption)
              have q5 : x6_1 < (a0.size : Int) := of_decide_eq_true (by first | (with_reducible assumption) | assumption)
              have hx5 := bt_at a0 x6_1
              replace p5 := eq_true p5
              replace q5 := eq_true q5
              go_wp2
              go_ret
              exact ⟨by first | rfl | (simp; done) | (simp [*]; done), by repeat (first | exact Drawn0.refl _ | apply Drawn0.step)⟩
          · rw [if_neg c4] at H
            exact absurd H (by simp)
        · rw [if_neg c3] at H
          exact absurd H (by simp)
      · rw [if_neg c2] at H
        have c2b0 : decide (x6_1 < (a0.size : Int)) = false := decide_eq_false c2
        clear c2
        obtain rfl := Option.some.inj H
        go_wp2
        go_ret
        exact ⟨by first | rfl | (simp; done) | (simp [*]; done), by repeat (first | exact Drawn0.refl _ | apply Drawn0.step)⟩
end Go.Proofs.YtkffhgiiejbnaaaGreat.Rf
