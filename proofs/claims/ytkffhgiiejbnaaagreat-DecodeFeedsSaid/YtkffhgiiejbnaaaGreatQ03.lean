import Derived.Test.YtkffhgiiejbnaaaGreatQ01
set_option linter.unusedVariables false
set_option linter.unusedSimpArgs false
namespace Go.Proofs.YtkffhgiiejbnaaaGreat.Rf
open Go.RowKit Go.Proofs.YtkffhgiiejbnaaaGreatW.PrintWords Go.Proofs.YtkffhgiiejbnaaaGreatW.PrintLast Go.Proofs.YtkffhgiiejbnaaaGreatW.PrintMore
attribute [local go_sem] max2_int min2_int max_two min_two max_three min_three max_four min_four
set_option linter.unusedVariables false
set_option linter.unusedSimpArgs false
def mark_Bytes.l0 : Nat → ByteArray → List Int → Int → Int → Option (List Int)
  | 0, _, _, _, _ => none
  | k + 1, x0, x3, x6, x7 => if x7 < x6 then (if 0 ≤ x7 then (if x7 < (x0.size : Int) then (if x3.length < 17592186044416 then (mark_Bytes.l0 k x0 (x3 ++ [wrap64 (bt x0 x7)]) x6 (wrap64 (x7 + 1))) else (none)) else (none)) else (none)) else (some x3)
def mark_Bytes.f (k : Nat) (a0 : ByteArray) : Option (List Int) := mark_Bytes.l0 k a0 ([] : List Int) (a0.size : Int) 0
set_option maxHeartbeats 8000000 in
set_option maxRecDepth 100000 in
theorem mark_Bytes.calls (k : Nat) (a0 : ByteArray) (r : List Int) (w : World) (h : mark_Bytes.f k a0 = some r) :
    Calls Tryz.prog 28 #[.string a0] w fun e w' => ∃ v0_ : Value, e = .returned (v0_) ∧ Kd.R (Kd.int .i64) 3 w' w.heap.size (fun _ => True) v0_ r ∧ Below w.heap.size w w' := by
  have HB := Aside0.mk (Below.refl w.heap.size w)
  have H : (mark_Bytes.l0 k a0 ([] : List Int) (a0.size : Int) 0) = some r := h
  clear h
  have H' := Aside0.mk H
  clear H
  go_enter Tryz.func28, Tryz.ntmps28
  go_wp2
  go_loopg [3, 7] k (fun kq v3 v7 w' => ∃ (x3_1 : List Int) (x7_1 : Int), v7 = .int .i64 x7_1 ∧ Aside0 (mark_Bytes.l0 kq a0 x3_1 (a0.size : Int) x7_1 = some r) ∧ Aside0 (kq ≤ k) ∧ Aside0 (Kd.R (Kd.int .i64) 3 w' w.heap.size (fun _ => True) v3 x3_1) ∧ Aside0 (Below w.heap.size w w'))
  case atStart => exact ⟨(([] : List Int)), (0), (by first | rfl | (simp; done) | (simp [*]; done)), H', ⟨Nat.le_refl _⟩, ⟨by first | exact Kd.R_nil _ _ _ _ _ | exact Kd.N_nil _ _ _ _ _ | exact Kd.V_nil _ _ _ _ _ | exact Kd.Q_nil _ _ _ _ _ | exact Kd.S_nil _ _ _ _ _⟩, ⟨by repeat (first | (with_reducible first | exact HB.out | apply below_alloc | apply pw_below_drewN | apply below_drew1) | exact HB.out)⟩⟩
  case round =>
    clear H'
    obtain ⟨x3_1, x7_1, rfl, HA, HK1, HO_3, HB⟩ := hrel
    cases gk with
    | zero => exact absurd HA.out (by simp [mark_Bytes.l0])
    | succ k1 =>
      have H := HA.out
      clear HA
      simp only [mark_Bytes.l0] at H
      by_cases c2 : x7_1 < (a0.size : Int)
      · rw [if_pos c2] at H
        have c2b0 : decide (x7_1 < (a0.size : Int)) = true := decide_eq_true c2
        clear c2
        by_cases c3 : 0 ≤ x7_1
        · rw [if_pos c3] at H
          have c3b0 : decide (0 ≤ x7_1) = true := decide_eq_true c3
          clear c3
          by_cases c4 : x7_1 < (a0.size : Int)
          · rw [if_pos c4] at H
            have c4b0 : decide (x7_1 < (a0.size : Int)) = true := decide_eq_true c4
            clear c4
            by_cases c6 : x3_1.length < 17592186044416
            · rw [if_pos c6] at H
              have LMc6 := Aside0.mk c6
              clear c6
              obtain ⟨y115, hy115⟩ : ∃ y_ : List Int, y_ = (x3_1 ++ [wrap64 (bt a0 x7_1)]) := ⟨_, rfl⟩
              replace H : (mark_Bytes.l0 k1 a0 y115 (a0.size : Int) (wrap64 (x7_1 + 1))) = some r := by first | (rw [hy115]; with_reducible exact H) | (have H2_ := (Option.bind_some _ _).symm.trans H; rw [hy115]; with_reducible exact H2_) | (have H2_ := (Option.bind_some _ _).symm.trans H; with_reducible exact H2_) | with_reducible exact H | (rw [hy115]; exact H) | exact H
              have Ny115 := Aside0.mk hy115
              clear hy115
              have H' := Aside0.mk H
              clear H
              have p5 : 0 ≤ (x7_1 : Int) := of_decide_eq_true (by first | (with_reducible assumption) | assumption)
              have q5 : x7_1 < (a0.size : Int) := of_decide_eq_true (by first | (with_reducible assumption) | assumption)
              have hx5 := bt_at a0 x7_1
              replace p5 := eq_true p5
              replace q5 := eq_true q5
              go_wp2_with (first | ((with_reducible refine gate_builtin (b := .append) (xs := #[.tmp 10, .tmp 15]) rfl ?_); at_builtin; refine Kd.R_append (Kd.int .i64) (w0 := w) w.heap.size rfl (.tmp 10) (.tmp 15) 41 3 (.int .i64 0) 8 rfl Tryz.underlying41 info3 rfl (by decide) (by omega) u3 x3_1 (wrap64 (bt a0 x7_1)) [.int .i64 (wrap64 (bt a0 x7_1))] (fun _ => True) (fun _ => False) rfl rfl ?aP (fun _ hk => hk.elim) ?aF ?aO ?aB ?aS ?aL ?_; (case aP => exact rfl); (case aB => exact (by repeat (first | (with_reducible first | exact HB.out | apply below_alloc | apply pw_below_drewN | apply below_drew1) | exact HB.out))); (case aF => exact (fun _ _ => trivial)); (case aO => exact (by (with_reducible repeat (first | apply Kd.R_alloc | apply Kd.R_drewN | apply Kd.R_drew)); exact HO_3.out)); (case aS => exact (below_size (by repeat (first | (with_reducible first | exact HB.out | apply below_alloc | apply pw_below_drewN | apply below_drew1) | exact HB.out)))); (case aL => have := LMc6.out; omega); intro v116 w7 ho hb hg hat; rw [← Ny115.out] at ho; have n0_ := Aside0.mk (hb); have n1_ := Aside0.mk (ho); clear HB; clear HO_3; have HB := n0_; have HO117 := n1_; clear n0_ n1_; clear ho hb hg hat))
              go_roundg k1
              case measure => have := HK1.out; omega
              case rel => exact ⟨(y115), (wrap64 (x7_1 + 1)), (by first | rfl | (simp; done) | (simp [*]; done)), H', ⟨by have := HK1.out; omega⟩, ⟨by (with_reducible repeat (first | apply Kd.R_alloc | apply Kd.R_drewN | apply Kd.R_drew)); exact HO117.out⟩, ⟨by repeat (first | (with_reducible first | exact HB.out | apply below_alloc | apply pw_below_drewN | apply below_drew1) | exact HB.out)⟩⟩
            · rw [if_neg c6] at H
              exact absurd H (by simp)
          · rw [if_neg c4] at H
            exact absurd H (by simp)
        · rw [if_neg c3] at H
          exact absurd H (by simp)
      · rw [if_neg c2] at H
        have c2b0 : decide (x7_1 < (a0.size : Int)) = false := decide_eq_false c2
        clear c2
        obtain rfl := Option.some.inj H
        go_wp2
        go_ret
        exact ⟨_, by first | rfl | (simp [errW_none, errW_some] <;> rfl) | (simp [*, errW_none, errW_some] <;> rfl), by (with_reducible repeat (first | apply Kd.R_alloc | apply Kd.R_drewN | apply Kd.R_drew)); exact HO_3.out, by repeat (first | (with_reducible first | exact HB.out | apply below_alloc | apply pw_below_drewN | apply below_drew1) | exact HB.out)⟩
end Go.Proofs.YtkffhgiiejbnaaaGreat.Rf
namespace Go.Proofs.YtkffhgiiejbnaaaGreat.Rf
open Go.RowKit Go.Proofs.YtkffhgiiejbnaaaGreatW.PrintWords Go.Proofs.YtkffhgiiejbnaaaGreatW.PrintLast Go.Proofs.YtkffhgiiejbnaaaGreatW.PrintMore
attribute [local go_sem] max2_int min2_int max_two min_two max_three min_three max_four min_four
set_option linter.unusedVariables false
set_option linter.unusedSimpArgs false
def decode_need.f (a0 : Int) : Option (Int) := if (a0 / 32) = 6 then (some 2) else (if (a0 / 16) = 14 then (some 3) else (if (a0 / 8) = 30 then (some 4) else (some 0)))
set_option maxHeartbeats 8000000 in
set_option maxRecDepth 100000 in
theorem decode_need.calls (a0 : Int) (r : Int) (w : World) (h : decode_need.f a0 = some r) :
    Calls Tryz.prog 74 #[.int .u8 a0] w fun e w' => e = .returned (.int .i64 r) ∧ Drawn0 w w' := by
  have H : (if (a0 / 32) = 6 then (some 2) else (if (a0 / 16) = 14 then (some 3) else (if (a0 / 8) = 30 then (some 4) else (some 0)))) = some r := h
  clear h
  by_cases c2 : (a0 / 32) = 6
  · rw [if_pos c2] at H
    have c2b0 : ((a0 / 32) == 6) = true := beq_iff_eq.mpr c2
    have c2b1 : ((a0 / 32) != 6) = false := bne_eq_false_iff_eq.mpr c2
    clear c2
    obtain rfl := Option.some.inj H
    go_enter Tryz.func74, Tryz.ntmps74
    go_wp2
    go_ret
    exact ⟨by first | rfl | (simp; done) | (simp [*]; done), by repeat (first | exact Drawn0.refl _ | apply Drawn0.step)⟩
  · rw [if_neg c2] at H
    have c2b0 : ((a0 / 32) == 6) = false := beq_eq_false_iff_ne.mpr c2
    have c2b1 : ((a0 / 32) != 6) = true := bne_iff_ne.mpr c2
    by_cases c3 : (a0 / 16) = 14
    · rw [if_pos c3] at H
      have c3b0 : ((a0 / 16) == 14) = true := beq_iff_eq.mpr c3
      have c3b1 : ((a0 / 16) != 14) = false := bne_eq_false_iff_eq.mpr c3
      clear c3
      obtain rfl := Option.some.inj H
      go_enter Tryz.func74, Tryz.ntmps74
      go_wp2
      go_ret
      exact ⟨by first | rfl | (simp; done) | (simp [*]; done), by repeat (first | exact Drawn0.refl _ | apply Drawn0.step)⟩
    · rw [if_neg c3] at H
      have c3b0 : ((a0 / 16) == 14) = false := beq_eq_false_iff_ne.mpr c3
      have c3b1 : ((a0 / 16) != 14) = true := bne_iff_ne.mpr c3
      by_cases c4 : (a0 / 8) = 30
      · rw [if_pos c4] at H
        have c4b0 : ((a0 / 8) == 30) = true := beq_iff_eq.mpr c4
        have c4b1 : ((a0 / 8) != 30) = false := bne_eq_false_iff_eq.mpr c4
        clear c4
        obtain rfl := Option.some.inj H
        go_enter Tryz.func74, Tryz.ntmps74
        go_wp2
        go_ret
        exact ⟨by first | rfl | (simp; done) | (simp [*]; done), by repeat (first | exact Drawn0.refl _ | apply Drawn0.step)⟩
      · rw [if_neg c4] at H
        have c4b0 : ((a0 / 8) == 30) = false := beq_eq_false_iff_ne.mpr c4
        have c4b1 : ((a0 / 8) != 30) = true := bne_iff_ne.mpr c4
        obtain rfl := Option.some.inj H
        go_enter Tryz.func74, Tryz.ntmps74
        go_wp2
        go_ret
        exact ⟨by first | rfl | (simp; done) | (simp [*]; done), by repeat (first | exact Drawn0.refl _ | apply Drawn0.step)⟩
end Go.Proofs.YtkffhgiiejbnaaaGreat.Rf
namespace Go.Proofs.YtkffhgiiejbnaaaGreat.Rf
open Go.RowKit Go.Proofs.YtkffhgiiejbnaaaGreatW.PrintWords Go.Proofs.YtkffhgiiejbnaaaGreatW.PrintLast Go.Proofs.YtkffhgiiejbnaaaGreatW.PrintMore
attribute [local go_sem] max2_int min2_int max_two min_two max_three min_three max_four min_four
set_option linter.unusedVariables false
set_option linter.unusedSimpArgs false
def decode_goes.l0 : Nat → ByteArray → Int → Int → Option (Bool)
  | 0, _, _, _ => none
  | k + 1, x0, x5, x6 => if x6 < x5 then (if 0 ≤ x6 then (if x6 < (x0.size : Int) then (if ((bt x0 x6) / 64) = 2 then (decode_goes.l0 k x0 x5 (wrap64 (x6 + 1))) else (some false)) else (none)) else (none)) else (some true)
def decode_goes.f (k : Nat) (a0 : ByteArray) : Option (Bool) := decode_goes.l0 k a0 (a0.size : Int) 0
set_option maxHeartbeats 8000000 in
set_option maxRecDepth 100000 in
theorem decode_goes.calls (k : Nat) (a0 : ByteArray) (r : Bool) (w : World) (h : decode_goes.f k a0 = some r) :
    Calls Tryz.prog 75 #[.string a0] w fun e w' => e = .returned (.bool r) ∧ Drawn0 w w' := by
  have H : (decode_goes.l0 k a0 (a0.size : Int) 0) = some r := h
  clear h
  have H' := Aside0.mk H
  clear H
  go_enter Tryz.func75, Tryz.ntmps75
  go_wp2
  go_loopg [6] k (fun kq v6 w' => ∃ (x6_1 : Int), v6 = .int .i64 x6_1 ∧ Aside0 (decode_goes.l0 kq a0 (a0.size : Int) x6_1 = some r) ∧ Aside0 (kq ≤ k) ∧ Drawn0 w w')
  case atStart => exact ⟨(0), (by first | rfl | (simp; done) | (simp [*]; done)), H', ⟨Nat.le_refl _⟩, by repeat (first | exact Drawn0.refl _ | apply Drawn0.step)⟩
  case round =>
    clear H'
    obtain ⟨x6_1, rfl, HA, HK1, ⟨m1, rfl⟩⟩ := hrel
    cases gk with
    | zero => exact absurd HA.out (by simp [decode_goes.l0])
    | succ k1 =>
      have H := HA.out
      clear HA
      simp only [decode_goes.l0] at H
      by_cases c2 : x6_1 < (a0.size : Int)
      · rw [if_pos c2] at H
        have c2b0 : decide (x6_1 < (a0.size : Int)) = true := decide_eq_true c2
        clear c2
        by_cases c3 : 0 ≤ x6_1
        · rw [if_pos c3] at H
          have c3b0 : decide (0 ≤ x6_1) = true := decide_eq_true c3
          clear c3
          by_cases c4 : x6_1 < (a0.size : Int)
          · rw [if_pos c4] at H
            have c4b0 : decide (x6_1 < (a0.size : Int)) = true := decide_eq_true c4
            clear c4
            by_cases c6 : ((bt a0 x6_1) / 64) = 2
            · rw [if_pos c6] at H
              have c6b0 : (((bt a0 x6_1) / 64) == 2) = true := beq_iff_eq.mpr c6
              have c6b1 : (((bt a0 x6_1) / 64) != 2) = false := bne_eq_false_iff_eq.mpr c6
              clear c6
              have H' := Aside0.mk H
              clear H
              have p5 : 0 ≤ (x6_1 : Int) := of_decide_eq_true (by first | (with_reducible assumption) | assumption)
              have q5 : x6_1 < (a0.size : Int) := of_decide_eq_true (by first | (with_reducible assumption) | assumption)
              have hx5 := bt_at a0 x6_1
              replace p5 := eq_true p5
              replace q5 := eq_true q5
              go_wp2
              go_roundg k1
              case measure => have := HK1.out; omega
              case rel => exact ⟨(wrap64 (x6_1 + 1)), (by first | rfl | (simp; done) | (simp [*]; done)), H', ⟨by have := HK1.out; omega⟩, by repeat (first | exact Drawn0.refl _ | apply Drawn0.step)⟩
            · rw [if_neg c6] at H
              have c6b0 : (((bt a0 x6_1) / 64) == 2) = false := beq_eq_false_iff_ne.mpr c6
              have c6b1 : (((bt a0 x6_1) / 64) != 2) = true := bne_iff_ne.mpr c6
              obtain rfl := Option.some.inj H
              have p5 : 0 ≤ (x6_1 : Int) := of_decide_eq_true (by first | (with_reducible assumption) | assumption)
              have q5 : x6_1 < (a0.size : Int) := of_decide_eq_true (by first | (with_reducible assumption) | assumption)
              have hx5 := bt_at a0 x6_1
              replace p5 := eq_true p5
              replace q5 := eq_true q5
              go_wp2
              go_ret
              exact ⟨by first | rfl | (simp; done) | (simp [*]; done), by repeat (first | exact Drawn0.refl _ | apply Drawn0.step)⟩
          · rw [if_neg c4] at H
            exact absurd H (by simp)
        · rw [if_neg c3] at H
          exact absurd H (by simp)
      · rw [if_neg c2] at H
        have c2b0 : decide (x6_1 < (a0.size : Int)) = false := decide_eq_false c2
        clear c2
        obtain rfl := Option.some.inj H
        go_wp2
        go_ret
        exact ⟨by first | rfl | (simp; done) | (simp [*]; done), by repeat (first | exact Drawn0.refl _ | apply Drawn0.step)⟩
end Go.Proofs.YtkffhgiiejbnaaaGreat.Rf
namespace Go.Proofs.YtkffhgiiejbnaaaGreat.Rf
open Go.RowKit Go.Proofs.YtkffhgiiejbnaaaGreatW.PrintWords Go.Proofs.YtkffhgiiejbnaaaGreatW.PrintLast Go.Proofs.YtkffhgiiejbnaaaGreatW.PrintMore
attribute [local go_sem] max2_int min2_int max_two min_two max_three min_three max_four min_four
set_option linter.unusedVariables false
set_option linter.unusedSimpArgs false
def ligatureref10_Great.f (k : Nat) (l0 : List Int) (l1 : List (S165)) (l2 : List (S108)) (l3 : List (S93)) : Option (Bool) := if (l0.length : Int) > 60 then (some true) else (if (l1.length : Int) > 20 then (some true) else (if (l2.length : Int) > 20 then (some true) else ((ligatureref09_Great.f k l3).bind fun t102 => (some t102))))
set_option maxHeartbeats 8000000 in
set_option maxRecDepth 100000 in
theorem ligatureref10_Great.calls (k : Nat) (A0 : Option Addr) (c0 : Nat) (l0 : List Int) (A1 : Option Addr) (c1 : Nat) (l1 : List (S165)) (A2 : Option Addr) (c2 : Nat) (l2 : List (S108)) (A3 : Option Addr) (c3 : Nat) (l3 : List (S93)) (r : Bool) (w : World) (hr0 : Kd.C (Kd.int .u16) w A0 l0.length l0) (hc0 : l0.length ≤ c0) (hr1 : Kd.C k165 w A1 l1.length l1) (hc1 : l1.length ≤ c1) (hr2 : Kd.C k108 w A2 l2.length l2) (hc2 : l2.length ≤ c2) (hr3 : Kd.C k93 w A3 l3.length l3) (hc3 : l3.length ≤ c3) (h : ligatureref10_Great.f k l0 l1 l2 l3 = some r) :
    Calls Tryz.prog 49 #[.slice A0 l0.length c0, .slice A1 l1.length c1, .slice A2 l2.length c2, .slice A3 l3.length c3] w fun e w' => e = .returned (.bool r) ∧ Drawn0 w w' := by
  have HR0 := Aside0.mk hr0
  have HC0 := Aside0.mk hc0
  clear hr0 hc0
  have HR1 := Aside0.mk hr1
  have HC1 := Aside0.mk hc1
  clear hr1 hc1
  have HR2 := Aside0.mk hr2
  have HC2 := Aside0.mk hc2
  clear hr2 hc2
  have HR3 := Aside0.mk hr3
  have HC3 := Aside0.mk hc3
  clear hr3 hc3
  have H : (if (l0.length : Int) > 60 then (some true) else (if (l1.length : Int) > 20 then (some true) else (if (l2.length : Int) > 20 then (some true) else ((ligatureref09_Great.f k l3).bind fun t102 => (some t102))))) = some r := h
  clear h
  by_cases c5 : (l0.length : Int) > 60
  · rw [if_pos c5] at H
    have c5b0 : decide (60 < (l0.length : Int)) = true := decide_eq_true c5
    have c5b1 : decide (60 < l0.length) = true := decide_eq_true (by omega)
    clear c5
    obtain rfl := Option.some.inj H
    go_enter Tryz.func49, Tryz.ntmps49
    go_wp2
    go_ret
    exact ⟨by first | rfl | (simp; done) | (simp [*]; done), by repeat (first | exact Drawn0.refl _ | apply Drawn0.step)⟩
  · rw [if_neg c5] at H
    have c5b0 : decide (60 < (l0.length : Int)) = false := decide_eq_false c5
    have c5b1 : decide (60 < l0.length) = false := decide_eq_false (by omega)
    clear c5
    by_cases c6 : (l1.length : Int) > 20
    · rw [if_pos c6] at H
      have c6b0 : decide (20 < (l1.length : Int)) = true := decide_eq_true c6
      have c6b1 : decide (20 < l1.length) = true := decide_eq_true (by omega)
      clear c6
      obtain rfl := Option.some.inj H
      go_enter Tryz.func49, Tryz.ntmps49
      go_wp2
      go_ret
      exact ⟨by first | rfl | (simp; done) | (simp [*]; done), by repeat (first | exact Drawn0.refl _ | apply Drawn0.step)⟩
    · rw [if_neg c6] at H
      have c6b0 : decide (20 < (l1.length : Int)) = false := decide_eq_false c6
      have c6b1 : decide (20 < l1.length) = false := decide_eq_false (by omega)
      clear c6
      by_cases c7 : (l2.length : Int) > 20
      · rw [if_pos c7] at H
        have c7b0 : decide (20 < (l2.length : Int)) = true := decide_eq_true c7
        have c7b1 : decide (20 < l2.length) = true := decide_eq_true (by omega)
        clear c7
        obtain rfl := Option.some.inj H
        go_enter Tryz.func49, Tryz.ntmps49
        go_wp2
        go_ret
        exact ⟨by first | rfl | (simp; done) | (simp [*]; done), by repeat (first | exact Drawn0.refl _ | apply Drawn0.step)⟩
      · rw [if_neg c7] at H
        have c7b0 : decide (20 < (l2.length : Int)) = false := decide_eq_false c7
        have c7b1 : decide (20 < l2.length) = false := decide_eq_false (by omega)
        clear c7
        replace H := Option.bind_eq_some_iff.mp H
        obtain ⟨t102, A80, H⟩ := H
        replace H : (some t102) = some r := H
        have A8 := Aside0.mk A80
        clear A80
        obtain rfl := Option.some.inj H
        go_enter Tryz.func49, Tryz.ntmps49
        go_wp2_with (first | (go_at_call 84; (with_reducible refine (ligatureref09_Great.calls k _ _ l3 t102 _ ?side1 ?side2 A8.out).mono ?_); (case side1 => repeat (first | exact HR3.out | (with_reducible refine Kd.C_alloc ?_ _) | (with_reducible refine Kd.C_drewN ?_ _) | (with_reducible refine Kd.C_drew ?_))); (case side2 => exact HC3.out); rintro e w' ⟨rfl, ⟨nd, rfl⟩⟩))
        go_ret
        exact ⟨by first | rfl | (simp; done) | (simp [*]; done), by repeat (first | exact Drawn0.refl _ | apply Drawn0.step)⟩
end Go.Proofs.YtkffhgiiejbnaaaGreat.Rf
namespace Go.Proofs.YtkffhgiiejbnaaaGreat.Rf
open Go.RowKit Go.Proofs.YtkffhgiiejbnaaaGreatW.PrintWords Go.Proofs.YtkffhgiiejbnaaaGreatW.PrintLast Go.Proofs.YtkffhgiiejbnaaaGreatW.PrintMore
attribute [local go_sem] max2_int min2_int max_two min_two max_three min_three max_four min_four
set_option linter.unusedVariables false
set_option linter.unusedSimpArgs false
def ligaturelaw12_Great.f (k : Nat) (l0_0 : List Int) (l0_1 : List (S165)) (l0_2 : List (S108)) (l0_3 : List (S93)) : Option (Int) := (ligatureref10_Great.f k l0_0 l0_1 l0_2 l0_3).bind fun t104 => (if t104 = true then (some 1) else (some 0))
set_option maxHeartbeats 8000000 in
set_option maxRecDepth 100000 in
theorem ligaturelaw12_Great.calls (k : Nat) (A0_0 : Option Addr) (c0_0 : Nat) (l0_0 : List Int) (A0_1 : Option Addr) (c0_1 : Nat) (l0_1 : List (S165)) (A0_2 : Option Addr) (c0_2 : Nat) (l0_2 : List (S108)) (A0_3 : Option Addr) (c0_3 : Nat) (l0_3 : List (S93)) (r : Int) (w : World) (hr0_0 : Kd.C (Kd.int .u16) w A0_0 l0_0.length l0_0) (hc0_0 : l0_0.length ≤ c0_0) (hr0_1 : Kd.C k165 w A0_1 l0_1.length l0_1) (hc0_1 : l0_1.length ≤ c0_1) (hr0_2 : Kd.C k108 w A0_2 l0_2.length l0_2) (hc0_2 : l0_2.length ≤ c0_2) (hr0_3 : Kd.C k93 w A0_3 l0_3.length l0_3) (hc0_3 : l0_3.length ≤ c0_3) (h : ligaturelaw12_Great.f k l0_0 l0_1 l0_2 l0_3 = some r) :
    Calls Tryz.prog 13 #[.agg #[.slice A0_0 l0_0.length c0_0, .slice A0_1 l0_1.length c0_1, .slice A0_2 l0_2.length c0_2, .slice A0_3 l0_3.length c0_3]] w fun e w' => e = .returned (.int .i64 r) ∧ Below w.heap.size w w' := by
  have hu27 := Tryz.underlying27
  have HR0_0 := Aside0.mk hr0_0
  have HC0_0 := Aside0.mk hc0_0
  clear hr0_0 hc0_0
  have HR0_1 := Aside0.mk hr0_1
  have HC0_1 := Aside0.mk hc0_1
  clear hr0_1 hc0_1
  have HR0_2 := Aside0.mk hr0_2
  have HC0_2 := Aside0.mk hc0_2
  clear hr0_2 hc0_2
  have HR0_3 := Aside0.mk hr0_3
  have HC0_3 := Aside0.mk hc0_3
  clear hr0_3 hc0_3
  have HB := Aside0.mk (Below.refl w.heap.size w)
  have H : ((ligatureref10_Great.f k l0_0 l0_1 l0_2 l0_3).bind fun t104 => (if t104 = true then (some 1) else (some 0))) = some r := h
  clear h
  replace H := Option.bind_eq_some_iff.mp H
  obtain ⟨t104, A20, H⟩ := H
  replace H : (if t104 = true then (some 1) else (some 0)) = some r := H
  have A2 := Aside0.mk A20
  clear A20
  by_cases c3 : t104 = true
  · subst c3
    have H1 : (some 1) = some r := by rw [if_pos rfl] at H; exact H
    clear H
    have H := H1
    clear H1
    obtain rfl := Option.some.inj H
    go_enter Tryz.func13, Tryz.ntmps13
    go_wp2_with (first | ((with_reducible refine gate_dst (N := 1) rfl ?_); refine box_event ?hg (N := 1) ?hd (cs := #[.slice A0_0 l0_0.length c0_0, .slice A0_1 l0_1.length c0_1, .slice A0_2 l0_2.length c0_2, .slice A0_3 l0_3.length c0_3]) (t := 27) ?hr ?_; (case hd => rfl); (case hg => rfl); (case hr => first | (go_simp; done) | (go_simp; rfl)); intro gb103 hg w4 hbox hb; have n0_ := Aside0.mk (below_step (by repeat (first | (with_reducible first | exact HB.out | apply below_alloc | apply pw_below_drewN | apply below_drew1) | exact HB.out)) hb); have n1_ := Aside0.mk (hbox); have n2_ := Aside0.mk ((by rw [hg]; exact (below_size (by repeat (first | (with_reducible first | exact HB.out | apply below_alloc | apply pw_below_drewN | apply below_drew1) | exact HB.out))) : w.heap.size ≤ gb103)); have n3_ := Aside0.mk ((by rw [hg]; exact (below_size (by repeat (first | (with_reducible first | exact HB.out | apply below_alloc | apply pw_below_drewN | apply below_drew1) | exact HB.out))) : w.heap.size ≤ gb103)); clear HB; have HB := n0_; have BK103 := n1_; have GW103 := n2_; have GE103 := n3_; clear n0_ n1_ n2_ n3_; clear hb hbox hg; have hcz5_0 : w4.cell? ⟨gb103, 0, none⟩ = some (.slice A0_0 l0_0.length c0_0) := (blk_cell BK103.out 0).trans rfl; have hcz5_1 : w4.cell? ⟨gb103, 1, none⟩ = some (.slice A0_1 l0_1.length c0_1) := (blk_cell BK103.out 1).trans rfl; have hcz5_2 : w4.cell? ⟨gb103, 2, none⟩ = some (.slice A0_2 l0_2.length c0_2) := (blk_cell BK103.out 2).trans rfl; have hcz5_3 : w4.cell? ⟨gb103, 3, none⟩ = some (.slice A0_3 l0_3.length c0_3) := (blk_cell BK103.out 3).trans rfl; have hfz5_0 := blk_frozen BK103.out 0; have hfz5_1 := blk_frozen BK103.out 1; have hfz5_2 := blk_frozen BK103.out 2; have hfz5_3 := blk_frozen BK103.out 3) | ((with_reducible refine gate_callee (f := 49) rfl ?_); refine goesL_ (some 11) rfl rfl Tryz.func49 (by kernel_rfl) rfl #[.slice A0_0 l0_0.length c0_0, .slice A0_1 l0_1.length c0_1, .slice A0_2 l0_2.length c0_2, .slice A0_3 l0_3.length c0_3] rfl (by (try simp only [List.map_toArray, List.map_cons, List.map_nil]); first | done | rfl | (simp only [List.length_drop, List.length_take]; rfl)) ?_; (with_reducible refine (ligatureref10_Great.calls k _ _ l0_0 _ _ l0_1 _ _ l0_2 _ _ l0_3 true _ ?side1 ?side2 ?side3 ?side4 ?side5 ?side6 ?side7 ?side8 A2.out).mono ?_); (case side1 => repeat (first | exact (Kd.C_below HR0_0.out HB.out) | (with_reducible refine Kd.C_alloc ?_ _) | (with_reducible refine Kd.C_drewN ?_ _) | (with_reducible refine Kd.C_drew ?_))); (case side2 => exact HC0_0.out); (case side3 => repeat (first | exact (Kd.C_below HR0_1.out HB.out) | (with_reducible refine Kd.C_alloc ?_ _) | (with_reducible refine Kd.C_drewN ?_ _) | (with_reducible refine Kd.C_drew ?_))); (case side4 => exact HC0_1.out); (case side5 => repeat (first | exact (Kd.C_below HR0_2.out HB.out) | (with_reducible refine Kd.C_alloc ?_ _) | (with_reducible refine Kd.C_drewN ?_ _) | (with_reducible refine Kd.C_drew ?_))); (case side6 => exact HC0_2.out); (case side7 => repeat (first | exact (Kd.C_below HR0_3.out HB.out) | (with_reducible refine Kd.C_alloc ?_ _) | (with_reducible refine Kd.C_drewN ?_ _) | (with_reducible refine Kd.C_drew ?_))); (case side8 => exact HC0_3.out); rintro e w' ⟨rfl, ⟨nd, rfl⟩⟩; refine ⟨_, rfl, ?_⟩))
    go_ret
    exact ⟨by first | rfl | (simp [errW_none, errW_some] <;> rfl) | (simp [*, errW_none, errW_some] <;> rfl), by repeat (first | (with_reducible first | exact HB.out | apply below_alloc | apply pw_below_drewN | apply below_drew1 | refine below_set ?_ GE103.out) | exact HB.out)⟩
  · replace c3 := Bool.eq_false_iff.mpr c3
    subst c3
    have H1 : (some 0) = some r := by rw [if_neg (show ¬ (false = true) by decide)] at H; exact H
    clear H
    have H := H1
    clear H1
    obtain rfl := Option.some.inj H
    go_enter Tryz.func13, Tryz.ntmps13
    go_wp2_with (first | ((with_reducible refine gate_dst (N := 1) rfl ?_); refine box_event ?hg (N := 1) ?hd (cs := #[.slice A0_0 l0_0.length c0_0, .slice A0_1 l0_1.length c0_1, .slice A0_2 l0_2.length c0_2, .slice A0_3 l0_3.length c0_3]) (t := 27) ?hr ?_; (case hd => rfl); (case hg => rfl); (case hr => first | (go_simp; done) | (go_simp; rfl)); intro gb103 hg w6 hbox hb; have n0_ := Aside0.mk (below_step (by repeat (first | (with_reducible first | exact HB.out | apply below_alloc | apply pw_below_drewN | apply below_drew1) | exact HB.out)) hb); have n1_ := Aside0.mk (hbox); have n2_ := Aside0.mk ((by rw [hg]; exact (below_size (by repeat (first | (with_reducible first | exact HB.out | apply below_alloc | apply pw_below_drewN | apply below_drew1) | exact HB.out))) : w.heap.size ≤ gb103)); have n3_ := Aside0.mk ((by rw [hg]; exact (below_size (by repeat (first | (with_reducible first | exact HB.out | apply below_alloc | apply pw_below_drewN | apply below_drew1) | exact HB.out))) : w.heap.size ≤ gb103)); clear HB; have HB := n0_; have BK103 := n1_; have GW103 := n2_; have GE103 := n3_; clear n0_ n1_ n2_ n3_; clear hb hbox hg; have hcz7_0 : w6.cell? ⟨gb103, 0, none⟩ = some (.slice A0_0 l0_0.length c0_0) := (blk_cell BK103.out 0).trans rfl; have hcz7_1 : w6.cell? ⟨gb103, 1, none⟩ = some (.slice A0_1 l0_1.length c0_1) := (blk_cell BK103.out 1).trans rfl; have hcz7_2 : w6.cell? ⟨gb103, 2, none⟩ = some (.slice A0_2 l0_2.length c0_2) := (blk_cell BK103.out 2).trans rfl; have hcz7_3 : w6.cell? ⟨gb103, 3, none⟩ = some (.slice A0_3 l0_3.length c0_3) := (blk_cell BK103.out 3).trans rfl; have hfz7_0 := blk_frozen BK103.out 0; have hfz7_1 := blk_frozen BK103.out 1; have hfz7_2 := blk_frozen BK103.out 2; have hfz7_3 := blk_frozen BK103.out 3) | ((with_reducible refine gate_callee (f := 49) rfl ?_); refine goesL_ (some 11) rfl rfl Tryz.func49 (by kernel_rfl) rfl #[.slice A0_0 l0_0.length c0_0, .slice A0_1 l0_1.length c0_1, .slice A0_2 l0_2.length c0_2, .slice A0_3 l0_3.length c0_3] rfl (by (try simp only [List.map_toArray, List.map_cons, List.map_nil]); first | done | rfl | (simp only [List.length_drop, List.length_take]; rfl)) ?_; (with_reducible refine (ligatureref10_Great.calls k _ _ l0_0 _ _ l0_1 _ _ l0_2 _ _ l0_3 false _ ?side1 ?side2 ?side3 ?side4 ?side5 ?side6 ?side7 ?side8 A2.out).mono ?_); (case side1 => repeat (first | exact (Kd.C_below HR0_0.out HB.out) | (with_reducible refine Kd.C_alloc ?_ _) | (with_reducible refine Kd.C_drewN ?_ _) | (with_reducible refine Kd.C_drew ?_))); (case side2 => exact HC0_0.out); (case side3 => repeat (first | exact (Kd.C_below HR0_1.out HB.out) | (with_reducible refine Kd.C_alloc ?_ _) | (with_reducible refine Kd.C_drewN ?_ _) | (with_reducible refine Kd.C_drew ?_))); (case side4 => exact HC0_1.out); (case side5 => repeat (first | exact (Kd.C_below HR0_2.out HB.out) | (with_reducible refine Kd.C_alloc ?_ _) | (with_reducible refine Kd.C_drewN ?_ _) | (with_reducible refine Kd.C_drew ?_))); (case side6 => exact HC0_2.out); (case side7 => repeat (first | exact (Kd.C_below HR0_3.out HB.out) | (with_reducible refine Kd.C_alloc ?_ _) | (with_reducible refine Kd.C_drewN ?_ _) | (with_reducible refine Kd.C_drew ?_))); (case side8 => exact HC0_3.out); rintro e w' ⟨rfl, ⟨nd, rfl⟩⟩; refine ⟨_, rfl, ?_⟩))
    go_ret
    exact ⟨by first | rfl | (simp [errW_none, errW_some] <;> rfl) | (simp [*, errW_none, errW_some] <;> rfl), by repeat (first | (with_reducible first | exact HB.out | apply below_alloc | apply pw_below_drewN | apply below_drew1 | refine below_set ?_ GE103.out) | exact HB.out)⟩
end Go.Proofs.YtkffhgiiejbnaaaGreat.Rf
namespace Go.Proofs.YtkffhgiiejbnaaaGreat.Rf
open Go.RowKit Go.Proofs.YtkffhgiiejbnaaaGreatW.PrintWords Go.Proofs.YtkffhgiiejbnaaaGreatW.PrintLast Go.Proofs.YtkffhgiiejbnaaaGreatW.PrintMore
attribute [local go_sem] max2_int min2_int max_two min_two max_three min_three max_four min_four
set_option linter.unusedVariables false
set_option linter.unusedSimpArgs false
def ligatureref10_Vocab_Mark.l0 : Nat → Int → Int → List ByteArray → List (S91) → List (S165) → List (S108) → List (S93) → Option (Int)
  | 0, _, _, _, _, _, _, _ => none
  | k + 1, x1, x5, x372000, x372001, x372002, x372003, x372004 => if x5 < (x372004.length : Int) then (if 0 ≤ x5 then (if ((rd_T93 x372004 x5).f0) = x1 then (some (wrap64 ((-1) - x5))) else (ligatureref10_Vocab_Mark.l0 k x1 (wrap64 (x5 + 1)) x372000 x372001 x372002 x372003 x372004)) else (none)) else (some 0)
def ligatureref10_Vocab_Mark.f (k : Nat) (l0_0 : List ByteArray) (l0_1 : List (S91)) (l0_2 : List (S165)) (l0_3 : List (S108)) (l0_4 : List (S93)) (a1 : Int) : Option (Int) := ligatureref10_Vocab_Mark.l0 k a1 0 l0_0 l0_1 l0_2 l0_3 l0_4
set_option maxHeartbeats 8000000 in
set_option maxRecDepth 100000 in
theorem ligatureref10_Vocab_Mark.calls (k : Nat) (A0_0 : Option Addr) (c0_0 : Nat) (l0_0 : List ByteArray) (A0_1 : Option Addr) (c0_1 : Nat) (l0_1 : List (S91)) (A0_2 : Option Addr) (c0_2 : Nat) (l0_2 : List (S165)) (A0_3 : Option Addr) (c0_3 : Nat) (l0_3 : List (S108)) (A0_4 : Option Addr) (c0_4 : Nat) (l0_4 : List (S93)) (a1 : Int) (r : Int) (w : World) (hr0_0 : Kd.C Kd.string w A0_0 l0_0.length l0_0) (hc0_0 : l0_0.length ≤ c0_0) (hr0_1 : Kd.C k91 w A0_1 l0_1.length l0_1) (hc0_1 : l0_1.length ≤ c0_1) (hr0_2 : Kd.C k165 w A0_2 l0_2.length l0_2) (hc0_2 : l0_2.length ≤ c0_2) (hr0_3 : Kd.C k108 w A0_3 l0_3.length l0_3) (hc0_3 : l0_3.length ≤ c0_3) (hr0_4 : Kd.C k93 w A0_4 l0_4.length l0_4) (hc0_4 : l0_4.length ≤ c0_4) (h : ligatureref10_Vocab_Mark.f k l0_0 l0_1 l0_2 l0_3 l0_4 a1 = some r) :
    Calls Tryz.prog 78 #[.agg #[.slice A0_0 l0_0.length c0_0, .slice A0_1 l0_1.length c0_1, .slice A0_2 l0_2.length c0_2, .slice A0_3 l0_3.length c0_3, .slice A0_4 l0_4.length c0_4], .int .i64 a1] w fun e w' => e = .returned (.int .i64 r) ∧ Below w.heap.size w w' := by
  have hu38 := Tryz.underlying38
  have HR0_0 := Aside0.mk hr0_0
  have HC0_0 := Aside0.mk hc0_0
  clear hr0_0 hc0_0
  have HR0_1 := Aside0.mk hr0_1
  have HC0_1 := Aside0.mk hc0_1
  clear hr0_1 hc0_1
  have HR0_2 := Aside0.mk hr0_2
  have HC0_2 := Aside0.mk hc0_2
  clear hr0_2 hc0_2
  have HR0_3 := Aside0.mk hr0_3
  have HC0_3 := Aside0.mk hc0_3
  clear hr0_3 hc0_3
  have HR0_4 := Aside0.mk hr0_4
  have HC0_4 := Aside0.mk hc0_4
  clear hr0_4 hc0_4
  have HB := Aside0.mk (Below.refl w.heap.size w)
  have H : (ligatureref10_Vocab_Mark.l0 k a1 0 l0_0 l0_1 l0_2 l0_3 l0_4) = some r := h
  clear h
  have H' := Aside0.mk H
  clear H
  go_enter Tryz.func78, Tryz.ntmps78
  go_wp2_with (first | ((with_reducible refine gate_dst (N := 2) rfl ?_); refine box_event ?hg (N := 2) ?hd (cs := #[.slice A0_0 l0_0.length c0_0, .slice A0_1 l0_1.length c0_1, .slice A0_2 l0_2.length c0_2, .slice A0_3 l0_3.length c0_3, .slice A0_4 l0_4.length c0_4]) (t := 38) ?hr ?_; (case hd => rfl); (case hg => rfl); (case hr => first | (go_simp; done) | (go_simp; rfl)); intro gb371 hg w3 hbox hb; have n0_ := Aside0.mk (below_step (by repeat (first | (with_reducible first | exact HB.out | apply below_alloc | apply pw_below_drewN | apply below_drew1) | exact HB.out)) hb); have n1_ := Aside0.mk (hbox); have n2_ := Aside0.mk ((by rw [hg]; exact (below_size (by repeat (first | (with_reducible first | exact HB.out | apply below_alloc | apply pw_below_drewN | apply below_drew1) | exact HB.out))) : w.heap.size ≤ gb371)); have n3_ := Aside0.mk ((by rw [hg]; exact (below_size (by repeat (first | (with_reducible first | exact HB.out | apply below_alloc | apply pw_below_drewN | apply below_drew1) | exact HB.out))) : w.heap.size ≤ gb371)); clear HB; have HB := n0_; have BK371 := n1_; have GW371 := n2_; have GE371 := n3_; clear n0_ n1_ n2_ n3_; clear hb hbox hg))
  go_loopg [5] k (fun kq v5 w' => ∃ (x5_1 : Int), v5 = .int .i64 x5_1 ∧ Aside0 (ligatureref10_Vocab_Mark.l0 kq a1 x5_1 l0_0 l0_1 l0_2 l0_3 l0_4 = some r) ∧ Aside0 (kq ≤ k) ∧ Aside0 (w'.heap[gb371]? = some (.cells #[(.slice A0_0 l0_0.length c0_0), (.slice A0_1 l0_1.length c0_1), (.slice A0_2 l0_2.length c0_2), (.slice A0_3 l0_3.length c0_3), (.slice A0_4 l0_4.length c0_4)] 38 (0, 0))) ∧ Aside0 (Below w.heap.size w w'))
  case atStart => exact ⟨(0), (by first | rfl | (simp; done) | (simp [*]; done)), H', ⟨Nat.le_refl _⟩, ⟨by (with_reducible repeat (first | refine blk_drewN ?_ _ | refine blk_drew ?_ | refine blk_alloc ?_ _)); exact BK371.out⟩, ⟨by repeat (first | (with_reducible first | exact HB.out | apply below_alloc | apply pw_below_drewN | apply below_drew1 | refine below_set ?_ GE371.out) | exact HB.out)⟩⟩
  case round =>
    clear H'
    try clear p2
    obtain ⟨x5_1, rfl, HA, HK1, BK371, HB⟩ := hrel
    cases gk with
    | zero => exact absurd HA.out (by simp [ligatureref10_Vocab_Mark.l0])
    | succ k1 =>
      have H := HA.out
      clear HA
      simp only [ligatureref10_Vocab_Mark.l0] at H
      by_cases c4 : x5_1 < (l0_4.length : Int)
      · rw [if_pos c4] at H
        have c4b0 : decide (x5_1 < (l0_4.length : Int)) = true := decide_eq_true c4
        clear c4
        by_cases c5 : 0 ≤ x5_1
        · rw [if_pos c5] at H
          have c5b0 : decide (0 ≤ x5_1) = true := decide_eq_true c5
          clear c5
          by_cases c6 : ((rd_T93 l0_4 x5_1).f0) = a1
          · rw [if_pos c6] at H
            have c6b0 : (((rd_T93 l0_4 x5_1).f0) == a1) = true := beq_iff_eq.mpr c6
            have c6b1 : (((rd_T93 l0_4 x5_1).f0) != a1) = false := bne_eq_false_iff_eq.mpr c6
            clear c6
            obtain rfl := Option.some.inj H
            have hcz7_0 : wr.cell? ⟨gb371, 0, none⟩ = some (.slice A0_0 l0_0.length c0_0) := (blk_cell BK371.out 0).trans rfl
            have hcz7_1 : wr.cell? ⟨gb371, 1, none⟩ = some (.slice A0_1 l0_1.length c0_1) := (blk_cell BK371.out 1).trans rfl
            have hcz7_2 : wr.cell? ⟨gb371, 2, none⟩ = some (.slice A0_2 l0_2.length c0_2) := (blk_cell BK371.out 2).trans rfl
            have hcz7_3 : wr.cell? ⟨gb371, 3, none⟩ = some (.slice A0_3 l0_3.length c0_3) := (blk_cell BK371.out 3).trans rfl
            have hcz7_4 : wr.cell? ⟨gb371, 4, none⟩ = some (.slice A0_4 l0_4.length c0_4) := (blk_cell BK371.out 4).trans rfl
            have hfz7_0 := blk_frozen BK371.out 0
            have hfz7_1 := blk_frozen BK371.out 1
            have hfz7_2 := blk_frozen BK371.out 2
            have hfz7_3 := blk_frozen BK371.out 3
            have hfz7_4 := blk_frozen BK371.out 4
            have p372 : 0 ≤ (x5_1 : Int) := of_decide_eq_true (by first | (with_reducible assumption) | assumption)
            have q372 : x5_1 < (l0_4.length : Int) := of_decide_eq_true (by first | (with_reducible assumption) | assumption)
            obtain ⟨ad372, e372, hx372_0, hx372_1⟩ := at_T93 HR0_4.out x5_1 p372 q372
            cases e372
            replace hx372_0 := (HB.out.cell (World.block_lt_of_cell? w _ hx372_0)).trans hx372_0
            replace hx372_1 := (HB.out.cell (World.block_lt_of_cell? w _ hx372_1)).trans hx372_1
            replace p372 := eq_true p372
            replace q372 := eq_true q372
            go_wp2
            go_ret
            exact ⟨by first | rfl | (simp [errW_none, errW_some] <;> rfl) | (simp [*, errW_none, errW_some] <;> rfl), by repeat (first | (with_reducible first | exact HB.out | apply below_alloc | apply pw_below_drewN | apply below_drew1 | refine below_set ?_ GE371.out) | exact HB.out)⟩
          · rw [if_neg c6] at H
            have c6b0 : (((rd_T93 l0_4 x5_1).f0) == a1) = false := beq_eq_false_iff_ne.mpr c6
            have c6b1 : (((rd_T93 l0_4 x5_1).f0) != a1) = true := bne_iff_ne.mpr c6
            have H' := Aside0.mk H
            clear H
            have hcz8_0 : wr.cell? ⟨gb371, 0, none⟩ = some (.slice A0_0 l0_0.length c0_0) := (blk_cell BK371.out 0).trans rfl
            have hcz8_1 : wr.cell? ⟨gb371, 1, none⟩ = some (.slice A0_1 l0_1.length c0_1) := (blk_cell BK371.out 1).trans rfl
            have hcz8_2 : wr.cell? ⟨gb371, 2, none⟩ = some (.slice A0_2 l0_2.length c0_2) := (blk_cell BK371.out 2).trans rfl
            have hcz8_3 : wr.cell? ⟨gb371, 3, none⟩ = some (.slice A0_3 l0_3.length c0_3) := (blk_cell BK371.out 3).trans rfl
            have hcz8_4 : wr.cell? ⟨gb371, 4, none⟩ = some (.slice A0_4 l0_4.length c0_4) := (blk_cell BK371.out 4).trans rfl
            have hfz8_0 := blk_frozen BK371.out 0
            have hfz8_1 := blk_frozen BK371.out 1
            have hfz8_2 := blk_frozen BK371.out 2
            have hfz8_3 := blk_frozen BK371.out 3
            have hfz8_4 := blk_frozen BK371.out 4
            have p372 : 0 ≤ (x5_1 : Int) := of_decide_eq_true (by first | (with_reducible assumption) | assumption)
            have q372 : x5_1 < (l0_4.length : Int) := of_decide_eq_true (by first | (with_reducible assumption) | assumption)
            obtain ⟨ad372, e372, hx372_0, hx372_1⟩ := at_T93 HR0_4.out x5_1 p372 q372
            cases e372
            replace hx372_0 := (HB.out.cell (World.block_lt_of_cell? w _ hx372_0)).trans hx372_0
            replace hx372_1 := (HB.out.cell (World.block_lt_of_cell? w _ hx372_1)).trans hx372_1
            replace p372 := eq_true p372
            replace q372 := eq_true q372
            go_wp2
            go_roundg k1
            case measure => have := HK1.out; omega
            case rel => exact ⟨(wrap64 (x5_1 + 1)), (by first | rfl | (simp; done) | (simp [*]; done)), H', ⟨by have := HK1.out; omega⟩, ⟨by (with_reducible repeat (first | refine blk_drewN ?_ _ | refine blk_drew ?_ | refine blk_alloc ?_ _)); exact BK371.out⟩, ⟨by repeat (first | (with_reducible first | exact HB.out | apply below_alloc | apply pw_below_drewN | apply below_drew1 | refine below_set ?_ GE371.out) | exact HB.out)⟩⟩
        · rw [if_neg c5] at H
          exact absurd H (by simp)
      · rw [if_neg c4] at H
        have c4b0 : decide (x5_1 < (l0_4.length : Int)) = false := decide_eq_false c4
        clear c4
        obtain rfl := Option.some.inj H
        have hcz9_0 : wr.cell? ⟨gb371, 0, none⟩ = some (.slice A0_0 l0_0.length c0_0) := (blk_cell BK371.out 0).trans rfl
        have hcz9_1 : wr.cell? ⟨gb371, 1, none⟩ = some (.slice A0_1 l0_1.length c0_1) := (blk_cell BK371.out 1).trans rfl
        have hcz9_2 : wr.cell? ⟨gb371, 2, none⟩ = some (.slice A0_2 l0_2.length c0_2) := (blk_cell BK371.out 2).trans rfl
        have hcz9_3 : wr.cell? ⟨gb371, 3, none⟩ = some (.slice A0_3 l0_3.length c0_3) := (blk_cell BK371.out 3).trans rfl
        have hcz9_4 : wr.cell? ⟨gb371, 4, none⟩ = some (.slice A0_4 l0_4.length c0_4) := (blk_cell BK371.out 4).trans rfl
        have hfz9_0 := blk_frozen BK371.out 0
        have hfz9_1 := blk_frozen BK371.out 1
        have hfz9_2 := blk_frozen BK371.out 2
        have hfz9_3 := blk_frozen BK371.out 3
        have hfz9_4 := blk_frozen BK371.out 4
        go_wp2
        go_ret
        exact ⟨by first | rfl | (simp [errW_none, errW_some] <;> rfl) | (simp [*, errW_none, errW_some] <;> rfl), by repeat (first | (with_reducible first | exact HB.out | apply below_alloc | apply pw_below_drewN | apply below_drew1 | refine below_set ?_ GE371.out) | exact HB.out)⟩
end Go.Proofs.YtkffhgiiejbnaaaGreat.Rf
namespace Go.Proofs.YtkffhgiiejbnaaaGreat.Rf
open Go.RowKit Go.Proofs.YtkffhgiiejbnaaaGreatW.PrintWords Go.Proofs.YtkffhgiiejbnaaaGreatW.PrintLast Go.Proofs.YtkffhgiiejbnaaaGreatW.PrintMore
attribute [local go_sem] max2_int min2_int max_two min_two max_three min_three max_four min_four
set_option linter.unusedVariables false
set_option linter.unusedSimpArgs false
def ligatureref10_Vocab_Has.f (k : Nat) (l0_0 : List ByteArray) (l0_1 : List (S91)) (l0_2 : List (S165)) (l0_3 : List (S108)) (l0_4 : List (S93)) (a1 : Int) : Option (Bool) := (ligatureref04_Table_Has.f l0_0 l0_1 a1).bind fun t374 => (if t374 = true then (some true) else ((ligatureref10_Vocab_Mark.f k l0_0 l0_1 l0_2 l0_3 l0_4 a1).bind fun t375 => (some (decide (t375 < 0)))))
set_option maxHeartbeats 8000000 in
set_option maxRecDepth 100000 in
theorem ligatureref10_Vocab_Has.calls (k : Nat) (A0_0 : Option Addr) (c0_0 : Nat) (l0_0 : List ByteArray) (A0_1 : Option Addr) (c0_1 : Nat) (l0_1 : List (S91)) (A0_2 : Option Addr) (c0_2 : Nat) (l0_2 : List (S165)) (A0_3 : Option Addr) (c0_3 : Nat) (l0_3 : List (S108)) (A0_4 : Option Addr) (c0_4 : Nat) (l0_4 : List (S93)) (a1 : Int) (r : Bool) (w : World) (hr0_0 : Kd.C Kd.string w A0_0 l0_0.length l0_0) (hc0_0 : l0_0.length ≤ c0_0) (hr0_1 : Kd.C k91 w A0_1 l0_1.length l0_1) (hc0_1 : l0_1.length ≤ c0_1) (hr0_2 : Kd.C k165 w A0_2 l0_2.length l0_2) (hc0_2 : l0_2.length ≤ c0_2) (hr0_3 : Kd.C k108 w A0_3 l0_3.length l0_3) (hc0_3 : l0_3.length ≤ c0_3) (hr0_4 : Kd.C k93 w A0_4 l0_4.length l0_4) (hc0_4 : l0_4.length ≤ c0_4) (h : ligatureref10_Vocab_Has.f k l0_0 l0_1 l0_2 l0_3 l0_4 a1 = some r) :
    Calls Tryz.prog 77 #[.agg #[.slice A0_0 l0_0.length c0_0, .slice A0_1 l0_1.length c0_1, .slice A0_2 l0_2.length c0_2, .slice A0_3 l0_3.length c0_3, .slice A0_4 l0_4.length c0_4], .int .i64 a1] w fun e w' => e = .returned (.bool r) ∧ Below w.heap.size w w' := by
  have hu38 := Tryz.underlying38
  have hu34 := Tryz.underlying34
  have HR0_0 := Aside0.mk hr0_0
  have HC0_0 := Aside0.mk hc0_0
  clear hr0_0 hc0_0
  have HR0_1 := Aside0.mk hr0_1
  have HC0_1 := Aside0.mk hc0_1
  clear hr0_1 hc0_1
  have HR0_2 := Aside0.mk hr0_2
  have HC0_2 := Aside0.mk hc0_2
  clear hr0_2 hc0_2
  have HR0_3 := Aside0.mk hr0_3
  have HC0_3 := Aside0.mk hc0_3
  clear hr0_3 hc0_3
  have HR0_4 := Aside0.mk hr0_4
  have HC0_4 := Aside0.mk hc0_4
  clear hr0_4 hc0_4
  have HB := Aside0.mk (Below.refl w.heap.size w)
  have H : ((ligatureref04_Table_Has.f l0_0 l0_1 a1).bind fun t374 => (if t374 = true then (some true) else ((ligatureref10_Vocab_Mark.f k l0_0 l0_1 l0_2 l0_3 l0_4 a1).bind fun t375 => (some (decide (t375 < 0)))))) = some r := h
  clear h
  replace H := Option.bind_eq_some_iff.mp H
  obtain ⟨t374, A30, H⟩ := H
  replace H : (if t374 = true then (some true) else ((ligatureref10_Vocab_Mark.f k l0_0 l0_1 l0_2 l0_3 l0_4 a1).bind fun t375 => (some (decide (t375 < 0))))) = some r := H
  have A3 := Aside0.mk A30
  clear A30
  by_cases c4 : t374 = true
  · subst c4
    have H1 : (some true) = some r := by rw [if_pos rfl] at H; exact H
    clear H
    have H := H1
    clear H1
    obtain rfl := Option.some.inj H
    go_enter Tryz.func77, Tryz.ntmps77
    go_wp2_with (first | ((with_reducible refine gate_dst (N := 2) rfl ?_); refine box_event ?hg (N := 2) ?hd (cs := #[.slice A0_0 l0_0.length c0_0, .slice A0_1 l0_1.length c0_1, .slice A0_2 l0_2.length c0_2, .slice A0_3 l0_3.length c0_3, .slice A0_4 l0_4.length c0_4]) (t := 38) ?hr ?_; (case hd => rfl); (case hg => rfl); (case hr => first | (go_simp; done) | (go_simp; rfl)); intro gb373 hg w5 hbox hb; have n0_ := Aside0.mk (below_step (by repeat (first | (with_reducible first | exact HB.out | apply below_alloc | apply pw_below_drewN | apply below_drew1) | exact HB.out)) hb); have n1_ := Aside0.mk (hbox); have n2_ := Aside0.mk ((by rw [hg]; exact (below_size (by repeat (first | (with_reducible first | exact HB.out | apply below_alloc | apply pw_below_drewN | apply below_drew1) | exact HB.out))) : w.heap.size ≤ gb373)); have n3_ := Aside0.mk ((by rw [hg]; exact (below_size (by repeat (first | (with_reducible first | exact HB.out | apply below_alloc | apply pw_below_drewN | apply below_drew1) | exact HB.out))) : w.heap.size ≤ gb373)); clear HB; have HB := n0_; have BK373 := n1_; have GW373 := n2_; have GE373 := n3_; clear n0_ n1_ n2_ n3_; clear hb hbox hg; have hcz6_0 : w5.cell? ⟨gb373, 0, none⟩ = some (.slice A0_0 l0_0.length c0_0) := (blk_cell BK373.out 0).trans rfl; have hcz6_1 : w5.cell? ⟨gb373, 1, none⟩ = some (.slice A0_1 l0_1.length c0_1) := (blk_cell BK373.out 1).trans rfl; have hcz6_2 : w5.cell? ⟨gb373, 2, none⟩ = some (.slice A0_2 l0_2.length c0_2) := (blk_cell BK373.out 2).trans rfl; have hcz6_3 : w5.cell? ⟨gb373, 3, none⟩ = some (.slice A0_3 l0_3.length c0_3) := (blk_cell BK373.out 3).trans rfl; have hcz6_4 : w5.cell? ⟨gb373, 4, none⟩ = some (.slice A0_4 l0_4.length c0_4) := (blk_cell BK373.out 4).trans rfl; have hfz6_0 := blk_frozen BK373.out 0; have hfz6_1 := blk_frozen BK373.out 1; have hfz6_2 := blk_frozen BK373.out 2; have hfz6_3 := blk_frozen BK373.out 3; have hfz6_4 := blk_frozen BK373.out 4) | ((with_reducible refine gate_callee (f := 106) rfl ?_); refine goesL_ (some 8) rfl rfl Tryz.func106 (by kernel_rfl) rfl #[.agg #[.slice A0_0 l0_0.length c0_0, .slice A0_1 l0_1.length c0_1], .int .i64 a1] rfl (by (try simp only [List.map_toArray, List.map_cons, List.map_nil]); first | done | rfl | (simp only [List.length_drop, List.length_take]; rfl)) ?_; (with_reducible refine (ligatureref04_Table_Has.calls _ _ l0_0 _ _ l0_1 a1 true _ ?side1 ?side2 ?side3 ?side4 A3.out).mono ?_); (case side1 => repeat (first | exact (Kd.C_below HR0_0.out HB.out) | (with_reducible refine Kd.C_alloc ?_ _) | (with_reducible refine Kd.C_drewN ?_ _) | (with_reducible refine Kd.C_drew ?_))); (case side2 => exact HC0_0.out); (case side3 => repeat (first | exact (Kd.C_below HR0_1.out HB.out) | (with_reducible refine Kd.C_alloc ?_ _) | (with_reducible refine Kd.C_drewN ?_ _) | (with_reducible refine Kd.C_drew ?_))); (case side4 => exact HC0_1.out); rintro e w7 ⟨rfl, hb⟩; refine ⟨_, rfl, ?_⟩; have n0_ := Aside0.mk (blk_below (g := gb373) (o := .cells #[.slice A0_0 l0_0.length c0_0, .slice A0_1 l0_1.length c0_1, .slice A0_2 l0_2.length c0_2, .slice A0_3 l0_3.length c0_3, .slice A0_4 l0_4.length c0_4] 38 (0, 0)) (by (with_reducible repeat (first | refine blk_drewN ?_ _ | refine blk_drew ?_ | refine blk_alloc ?_ _)); exact BK373.out) hb); have n1_ := Aside0.mk (below_step (by repeat (first | (with_reducible first | exact HB.out | apply below_alloc | apply pw_below_drewN | apply below_drew1 | refine below_set ?_ GE373.out) | exact HB.out)) hb); clear BK373; clear HB; have BK373 := n0_; have HB := n1_; clear n0_ n1_; (try clear hb); (try clear hb2); (try clear hk); (try clear hi)))
    go_ret
    exact ⟨by first | rfl | (simp [errW_none, errW_some] <;> rfl) | (simp [*, errW_none, errW_some] <;> rfl), by repeat (first | (with_reducible first | exact HB.out | apply below_alloc | apply pw_below_drewN | apply below_drew1 | refine below_set ?_ GE373.out) | exact HB.out)⟩
  · replace c4 := Bool.eq_false_iff.mpr c4
    subst c4
    have H1 : ((ligatureref10_Vocab_Mark.f k l0_0 l0_1 l0_2 l0_3 l0_4 a1).bind fun t375 => (some (decide (t375 < 0)))) = some r := by rw [if_neg (show ¬ (false = true) by decide)] at H; exact H
    clear H
    have H := H1
    clear H1
    replace H := Option.bind_eq_some_iff.mp H
    obtain ⟨t375, A80, H⟩ := H
    replace H : (some (decide (t375 < 0))) = some r := H
    have A8 := Aside0.mk A80
    clear A80
    obtain rfl := Option.some.inj H
    go_enter Tryz.func77, Tryz.ntmps77
    go_wp2_with (first | ((with_reducible refine gate_dst (N := 2) rfl ?_); refine box_event ?hg (N := 2) ?hd (cs := #[.slice A0_0 l0_0.length c0_0, .slice A0_1 l0_1.length c0_1, .slice A0_2 l0_2.length c0_2, .slice A0_3 l0_3.length c0_3, .slice A0_4 l0_4.length c0_4]) (t := 38) ?hr ?_; (case hd => rfl); (case hg => rfl); (case hr => first | (go_simp; done) | (go_simp; rfl)); intro gb373 hg w9 hbox hb; have n0_ := Aside0.mk (below_step (by repeat (first | (with_reducible first | exact HB.out | apply below_alloc | apply pw_below_drewN | apply below_drew1) | exact HB.out)) hb); have n1_ := Aside0.mk (hbox); have n2_ := Aside0.mk ((by rw [hg]; exact (below_size (by repeat (first | (with_reducible first | exact HB.out | apply below_alloc | apply pw_below_drewN | apply below_drew1) | exact HB.out))) : w.heap.size ≤ gb373)); have n3_ := Aside0.mk ((by rw [hg]; exact (below_size (by repeat (first | (with_reducible first | exact HB.out | apply below_alloc | apply pw_below_drewN | apply below_drew1) | exact HB.out))) : w.heap.size ≤ gb373)); clear HB; have HB := n0_; have BK373 := n1_; have GW373 := n2_; have GE373 := n3_; clear n0_ n1_ n2_ n3_; clear hb hbox hg; have hcz10_0 : w9.cell? ⟨gb373, 0, none⟩ = some (.slice A0_0 l0_0.length c0_0) := (blk_cell BK373.out 0).trans rfl; have hcz10_1 : w9.cell? ⟨gb373, 1, none⟩ = some (.slice A0_1 l0_1.length c0_1) := (blk_cell BK373.out 1).trans rfl; have hcz10_2 : w9.cell? ⟨gb373, 2, none⟩ = some (.slice A0_2 l0_2.length c0_2) := (blk_cell BK373.out 2).trans rfl; have hcz10_3 : w9.cell? ⟨gb373, 3, none⟩ = some (.slice A0_3 l0_3.length c0_3) := (blk_cell BK373.out 3).trans rfl; have hcz10_4 : w9.cell? ⟨gb373, 4, none⟩ = some (.slice A0_4 l0_4.length c0_4) := (blk_cell BK373.out 4).trans rfl; have hfz10_0 := blk_frozen BK373.out 0; have hfz10_1 := blk_frozen BK373.out 1; have hfz10_2 := blk_frozen BK373.out 2; have hfz10_3 := blk_frozen BK373.out 3; have hfz10_4 := blk_frozen BK373.out 4) | ((with_reducible refine gate_callee (f := 106) rfl ?_); refine goesL_ (some 8) rfl rfl Tryz.func106 (by kernel_rfl) rfl #[.agg #[.slice A0_0 l0_0.length c0_0, .slice A0_1 l0_1.length c0_1], .int .i64 a1] rfl (by (try simp only [List.map_toArray, List.map_cons, List.map_nil]); first | done | rfl | (simp only [List.length_drop, List.length_take]; rfl)) ?_; (with_reducible refine (ligatureref04_Table_Has.calls _ _ l0_0 _ _ l0_1 a1 false _ ?side1 ?side2 ?side3 ?side4 A3.out).mono ?_); (case side1 => repeat (first | exact (Kd.C_below HR0_0.out HB.out) | (with_reducible refine Kd.C_alloc ?_ _) | (with_reducible refine Kd.C_drewN ?_ _) | (with_reducible refine Kd.C_drew ?_))); (case side2 => exact HC0_0.out); (case side3 => repeat (first | exact (Kd.C_below HR0_1.out HB.out) | (with_reducible refine Kd.C_alloc ?_ _) | (with_reducible refine Kd.C_drewN ?_ _) | (with_reducible refine Kd.C_drew ?_))); (case side4 => exact HC0_1.out); rintro e w11 ⟨rfl, hb⟩; refine ⟨_, rfl, ?_⟩; have n0_ := Aside0.mk (blk_below (g := gb373) (o := .cells #[.slice A0_0 l0_0.length c0_0, .slice A0_1 l0_1.length c0_1, .slice A0_2 l0_2.length c0_2, .slice A0_3 l0_3.length c0_3, .slice A0_4 l0_4.length c0_4] 38 (0, 0)) (by (with_reducible repeat (first | refine blk_drewN ?_ _ | refine blk_drew ?_ | refine blk_alloc ?_ _)); exact BK373.out) hb); have n1_ := Aside0.mk (below_step (by repeat (first | (with_reducible first | exact HB.out | apply below_alloc | apply pw_below_drewN | apply below_drew1 | refine below_set ?_ GE373.out) | exact HB.out)) hb); clear BK373; clear HB; have BK373 := n0_; have HB := n1_; clear n0_ n1_; (try clear hb); (try clear hb2); (try clear hk); (try clear hi); have hcz12_0 : w11.cell? ⟨gb373, 0, none⟩ = some (.slice A0_0 l0_0.length c0_0) := (blk_cell BK373.out 0).trans rfl; have hcz12_1 : w11.cell? ⟨gb373, 1, none⟩ = some (.slice A0_1 l0_1.length c0_1) := (blk_cell BK373.out 1).trans rfl; have hcz12_2 : w11.cell? ⟨gb373, 2, none⟩ = some (.slice A0_2 l0_2.length c0_2) := (blk_cell BK373.out 2).trans rfl; have hcz12_3 : w11.cell? ⟨gb373, 3, none⟩ = some (.slice A0_3 l0_3.length c0_3) := (blk_cell BK373.out 3).trans rfl; have hcz12_4 : w11.cell? ⟨gb373, 4, none⟩ = some (.slice A0_4 l0_4.length c0_4) := (blk_cell BK373.out 4).trans rfl; have hfz12_0 := blk_frozen BK373.out 0; have hfz12_1 := blk_frozen BK373.out 1; have hfz12_2 := blk_frozen BK373.out 2; have hfz12_3 := blk_frozen BK373.out 3; have hfz12_4 := blk_frozen BK373.out 4) | (go_at_call 78; (with_reducible refine (ligatureref10_Vocab_Mark.calls k _ _ l0_0 _ _ l0_1 _ _ l0_2 _ _ l0_3 _ _ l0_4 a1 t375 _ ?side1 ?side2 ?side3 ?side4 ?side5 ?side6 ?side7 ?side8 ?side9 ?side10 A8.out).mono ?_); (case side1 => repeat (first | exact (Kd.C_below HR0_0.out HB.out) | (with_reducible refine Kd.C_alloc ?_ _) | (with_reducible refine Kd.C_drewN ?_ _) | (with_reducible refine Kd.C_drew ?_))); (case side2 => exact HC0_0.out); (case side3 => repeat (first | exact (Kd.C_below HR0_1.out HB.out) | (with_reducible refine Kd.C_alloc ?_ _) | (with_reducible refine Kd.C_drewN ?_ _) | (with_reducible refine Kd.C_drew ?_))); (case side4 => exact HC0_1.out); (case side5 => repeat (first | exact (Kd.C_below HR0_2.out HB.out) | (with_reducible refine Kd.C_alloc ?_ _) | (with_reducible refine Kd.C_drewN ?_ _) | (with_reducible refine Kd.C_drew ?_))); (case side6 => exact HC0_2.out); (case side7 => repeat (first | exact (Kd.C_below HR0_3.out HB.out) | (with_reducible refine Kd.C_alloc ?_ _) | (with_reducible refine Kd.C_drewN ?_ _) | (with_reducible refine Kd.C_drew ?_))); (case side8 => exact HC0_3.out); (case side9 => repeat (first | exact (Kd.C_below HR0_4.out HB.out) | (with_reducible refine Kd.C_alloc ?_ _) | (with_reducible refine Kd.C_drewN ?_ _) | (with_reducible refine Kd.C_drew ?_))); (case side10 => exact HC0_4.out); rintro e w13 ⟨rfl, hb⟩; have n0_ := Aside0.mk (blk_below (g := gb373) (o := .cells #[.slice A0_0 l0_0.length c0_0, .slice A0_1 l0_1.length c0_1, .slice A0_2 l0_2.length c0_2, .slice A0_3 l0_3.length c0_3, .slice A0_4 l0_4.length c0_4] 38 (0, 0)) (by (with_reducible repeat (first | refine blk_drewN ?_ _ | refine blk_drew ?_ | refine blk_alloc ?_ _)); exact BK373.out) hb); have n1_ := Aside0.mk (below_step (by repeat (first | (with_reducible first | exact HB.out | apply below_alloc | apply pw_below_drewN | apply below_drew1 | refine below_set ?_ GE373.out) | exact HB.out)) hb); clear BK373; clear HB; have BK373 := n0_; have HB := n1_; clear n0_ n1_; (try clear hb); (try clear hb2); (try clear hk); (try clear hi)))
    go_ret
    exact ⟨by first | rfl | (simp [errW_none, errW_some] <;> rfl) | (simp [*, errW_none, errW_some] <;> rfl), by repeat (first | (with_reducible first | exact HB.out | apply below_alloc | apply pw_below_drewN | apply below_drew1 | refine below_set ?_ GE373.out) | exact HB.out)⟩
end Go.Proofs.YtkffhgiiejbnaaaGreat.Rf
namespace Go.Proofs.YtkffhgiiejbnaaaGreat.Rf
open Go.RowKit Go.Proofs.YtkffhgiiejbnaaaGreatW.PrintWords Go.Proofs.YtkffhgiiejbnaaaGreatW.PrintLast Go.Proofs.YtkffhgiiejbnaaaGreatW.PrintMore
attribute [local go_sem] max2_int min2_int max_two min_two max_three min_three max_four min_four
set_option linter.unusedVariables false
set_option linter.unusedSimpArgs false
def ligatureref10_Vocab_Bad.l0 : Nat → List Int → Int → List ByteArray → List (S91) → List (S165) → List (S108) → List (S93) → Option (Int)
  | 0, _, _, _, _, _, _, _ => none
  | k + 1, x1, x5, x377000, x377001, x377002, x377003, x377004 => if x5 < (x1.length : Int) then (if 0 ≤ x5 then ((ligatureref10_Vocab_Has.f k x377000 x377001 x377002 x377003 x377004 (rd x1 x5)).bind fun t378 => (if t378 = true then (ligatureref10_Vocab_Bad.l0 k x1 (wrap64 (x5 + 1)) x377000 x377001 x377002 x377003 x377004) else (some x5))) else (none)) else (some (-1))
def ligatureref10_Vocab_Bad.f (k : Nat) (l0_0 : List ByteArray) (l0_1 : List (S91)) (l0_2 : List (S165)) (l0_3 : List (S108)) (l0_4 : List (S93)) (l1 : List Int) : Option (Int) := ligatureref10_Vocab_Bad.l0 k l1 0 l0_0 l0_1 l0_2 l0_3 l0_4
set_option maxHeartbeats 8000000 in
set_option maxRecDepth 100000 in
theorem ligatureref10_Vocab_Bad.calls (k : Nat) (A0_0 : Option Addr) (c0_0 : Nat) (l0_0 : List ByteArray) (A0_1 : Option Addr) (c0_1 : Nat) (l0_1 : List (S91)) (A0_2 : Option Addr) (c0_2 : Nat) (l0_2 : List (S165)) (A0_3 : Option Addr) (c0_3 : Nat) (l0_3 : List (S108)) (A0_4 : Option Addr) (c0_4 : Nat) (l0_4 : List (S93)) (A1 : Option Addr) (c1 : Nat) (l1 : List Int) (r : Int) (w : World) (hr0_0 : Kd.C Kd.string w A0_0 l0_0.length l0_0) (hc0_0 : l0_0.length ≤ c0_0) (hr0_1 : Kd.C k91 w A0_1 l0_1.length l0_1) (hc0_1 : l0_1.length ≤ c0_1) (hr0_2 : Kd.C k165 w A0_2 l0_2.length l0_2) (hc0_2 : l0_2.length ≤ c0_2) (hr0_3 : Kd.C k108 w A0_3 l0_3.length l0_3) (hc0_3 : l0_3.length ≤ c0_3) (hr0_4 : Kd.C k93 w A0_4 l0_4.length l0_4) (hc0_4 : l0_4.length ≤ c0_4) (hr1 : Kd.C (Kd.int .i64) w A1 l1.length l1) (hc1 : l1.length ≤ c1) (h : ligatureref10_Vocab_Bad.f k l0_0 l0_1 l0_2 l0_3 l0_4 l1 = some r) :
    Calls Tryz.prog 34 #[.agg #[.slice A0_0 l0_0.length c0_0, .slice A0_1 l0_1.length c0_1, .slice A0_2 l0_2.length c0_2, .slice A0_3 l0_3.length c0_3, .slice A0_4 l0_4.length c0_4], .slice A1 l1.length c1] w fun e w' => e = .returned (.int .i64 r) ∧ Below w.heap.size w w' := by
  have hu38 := Tryz.underlying38
  have HR0_0 := Aside0.mk hr0_0
  have HC0_0 := Aside0.mk hc0_0
  clear hr0_0 hc0_0
  have HR0_1 := Aside0.mk hr0_1
  have HC0_1 := Aside0.mk hc0_1
  clear hr0_1 hc0_1
  have HR0_2 := Aside0.mk hr0_2
  have HC0_2 := Aside0.mk hc0_2
  clear hr0_2 hc0_2
  have HR0_3 := Aside0.mk hr0_3
  have HC0_3 := Aside0.mk hc0_3
  clear hr0_3 hc0_3
  have HR0_4 := Aside0.mk hr0_4
  have HC0_4 := Aside0.mk hc0_4
  clear hr0_4 hc0_4
  have HR1 := Aside0.mk hr1
  have HC1 := Aside0.mk hc1
  clear hr1 hc1
  have HB := Aside0.mk (Below.refl w.heap.size w)
  have H : (ligatureref10_Vocab_Bad.l0 k l1 0 l0_0 l0_1 l0_2 l0_3 l0_4) = some r := h
  clear h
  have H' := Aside0.mk H
  clear H
  go_enter Tryz.func34, Tryz.ntmps34
  go_wp2_with (first | ((with_reducible refine gate_dst (N := 2) rfl ?_); refine box_event ?hg (N := 2) ?hd (cs := #[.slice A0_0 l0_0.length c0_0, .slice A0_1 l0_1.length c0_1, .slice A0_2 l0_2.length c0_2, .slice A0_3 l0_3.length c0_3, .slice A0_4 l0_4.length c0_4]) (t := 38) ?hr ?_; (case hd => rfl); (case hg => rfl); (case hr => first | (go_simp; done) | (go_simp; rfl)); intro gb376 hg w3 hbox hb; have n0_ := Aside0.mk (below_step (by repeat (first | (with_reducible first | exact HB.out | apply below_alloc | apply pw_below_drewN | apply below_drew1) | exact HB.out)) hb); have n1_ := Aside0.mk (hbox); have n2_ := Aside0.mk ((by rw [hg]; exact (below_size (by repeat (first | (with_reducible first | exact HB.out | apply below_alloc | apply pw_below_drewN | apply below_drew1) | exact HB.out))) : w.heap.size ≤ gb376)); have n3_ := Aside0.mk ((by rw [hg]; exact (below_size (by repeat (first | (with_reducible first | exact HB.out | apply below_alloc | apply pw_below_drewN | apply below_drew1) | exact HB.out))) : w.heap.size ≤ gb376)); clear HB; have HB := n0_; have BK376 := n1_; have GW376 := n2_; have GE376 := n3_; clear n0_ n1_ n2_ n3_; clear hb hbox hg))
  go_loopg [5] k (fun kq v5 w' => ∃ (x5_1 : Int), v5 = .int .i64 x5_1 ∧ Aside0 (ligatureref10_Vocab_Bad.l0 kq l1 x5_1 l0_0 l0_1 l0_2 l0_3 l0_4 = some r) ∧ Aside0 (kq ≤ k) ∧ Aside0 (w'.heap[gb376]? = some (.cells #[(.slice A0_0 l0_0.length c0_0), (.slice A0_1 l0_1.length c0_1), (.slice A0_2 l0_2.length c0_2), (.slice A0_3 l0_3.length c0_3), (.slice A0_4 l0_4.length c0_4)] 38 (0, 0))) ∧ Aside0 (Below w.heap.size w w'))
  case atStart => exact ⟨(0), (by first | rfl | (simp; done) | (simp [*]; done)), H', ⟨Nat.le_refl _⟩, ⟨by (with_reducible repeat (first | refine blk_drewN ?_ _ | refine blk_drew ?_ | refine blk_alloc ?_ _)); exact BK376.out⟩, ⟨by repeat (first | (with_reducible first | exact HB.out | apply below_alloc | apply pw_below_drewN | apply below_drew1 | refine below_set ?_ GE376.out) | exact HB.out)⟩⟩
  case round =>
    clear H'
    try clear c1
    try clear p2
    try clear c3
    obtain ⟨x5_1, rfl, HA, HK1, BK376, HB⟩ := hrel
    cases gk with
    | zero => exact absurd HA.out (by simp [ligatureref10_Vocab_Bad.l0])
    | succ k1 =>
      have H := HA.out
      clear HA
      simp only [ligatureref10_Vocab_Bad.l0] at H
      by_cases c4 : x5_1 < (l1.length : Int)
      · rw [if_pos c4] at H
        have c4b0 : decide (x5_1 < (l1.length : Int)) = true := decide_eq_true c4
        clear c4
        by_cases c5 : 0 ≤ x5_1
        · rw [if_pos c5] at H
          have c5b0 : decide (0 ≤ x5_1) = true := decide_eq_true c5
          clear c5
          replace H := Option.bind_eq_some_iff.mp H
          obtain ⟨t378, A60, H⟩ := H
          replace H : (if t378 = true then (ligatureref10_Vocab_Bad.l0 k1 l1 (wrap64 (x5_1 + 1)) l0_0 l0_1 l0_2 l0_3 l0_4) else (some x5_1)) = some r := H
          have A6 := Aside0.mk A60
          clear A60
          by_cases c7 : t378 = true
          · subst c7
            have H1 : (ligatureref10_Vocab_Bad.l0 k1 l1 (wrap64 (x5_1 + 1)) l0_0 l0_1 l0_2 l0_3 l0_4) = some r := by rw [if_pos rfl] at H; exact H
            clear H
            have H := H1
            clear H1
            have H' := Aside0.mk H
            clear H
            try go_wp2
            have n0_ := Aside0.mk (blk_drew BK376.out)
            have n1_ := Aside0.mk (below_drew1 HB.out)
            clear BK376
            clear HB
            have BK376 := n0_
            have HB := n1_
            clear n0_ n1_
            have p377 : 0 ≤ (x5_1 : Int) := of_decide_eq_true (by first | (with_reducible assumption) | assumption)
            have q377 : x5_1 < (l1.length : Int) := of_decide_eq_true (by first | (with_reducible assumption) | assumption)
            obtain ⟨ad377, e377, hx377_0⟩ := Kd.at_int HR1.out x5_1 p377 q377
            have hw377_0 := hx377_0
            cases e377
            replace hx377_0 := (HB.out.cell (World.block_lt_of_cell? w _ hx377_0)).trans hx377_0
            replace p377 := eq_true p377
            replace q377 := eq_true q377
            refine start_ (n := 7) (S := fun w' => w'.cell? ⟨gb376, 0, none⟩ = some (.slice A0_0 l0_0.length c0_0) ∧ w'.cell? ⟨gb376, 1, none⟩ = some (.slice A0_1 l0_1.length c0_1) ∧ w'.cell? ⟨gb376, 2, none⟩ = some (.slice A0_2 l0_2.length c0_2) ∧ w'.cell? ⟨gb376, 3, none⟩ = some (.slice A0_3 l0_3.length c0_3) ∧ w'.cell? ⟨gb376, 4, none⟩ = some (.slice A0_4 l0_4.length c0_4) ∧ w'.cell? (ad377.add (x5_1).toNat) = some (.int .i64 (rd l1 x5_1))) (ds := []) #[false, false, false, false, false, false, false] (by kernel_rfl) rfl rfl ⟨(blk_cell BK376.out 0).trans rfl, (blk_cell BK376.out 1).trans rfl, (blk_cell BK376.out 2).trans rfl, (blk_cell BK376.out 3).trans rfl, (blk_cell BK376.out 4).trans rfl, ((HB.out.cell (World.block_lt_of_cell? w _ hw377_0)).trans hw377_0)⟩ (fun hHeld => ?_)
            generalize wr.drew = w8 at BK376 HB hx377_0 hHeld ⊢
            refine pure_ (i := 1) (N := some 13) (v := ?_) (a' := ?_) #[false, true, false, false, false, false, false] rfl rfl (by kernel_rfl) (fun _ _ _ h => h) (Or.inl ⟨by rfl, ?_⟩) ?_ ?_
            rotate_left
            · intro w'
              go_simp
              with_reducible rfl
            rotate_left
            · simp only [Act.put, List.setIfInBounds_toArray, List.set_cons_zero, List.set_cons_succ, i64_w, i32_w]
              rfl
            refine pure_ (i := 2) (N := some 14) (v := ?_) (a' := ?_) #[false, true, true, false, false, false, false] rfl rfl (by kernel_rfl) (fun _ _ _ h => h) (Or.inl ⟨by rfl, ?_⟩) ?_ ?_
            rotate_left
            · intro w'
              go_simp
              with_reducible rfl
            rotate_left
            · simp only [Act.put, List.setIfInBounds_toArray, List.set_cons_zero, List.set_cons_succ, i64_w, i32_w]
              rfl
            refine pure_ (i := 3) (N := some 15) (v := ?_) (a' := ?_) #[false, true, true, true, false, false, false] rfl rfl (by kernel_rfl) (fun _ _ _ h => h) (Or.inl ⟨by rfl, ?_⟩) ?_ ?_
            rotate_left
            · intro w'
              go_simp
              with_reducible rfl
            rotate_left
            · simp only [Act.put, List.setIfInBounds_toArray, List.set_cons_zero, List.set_cons_succ, i64_w, i32_w]
              rfl
            refine take_ (i := 0) (N := some 12) (v := ?_) (a' := ?_) #[true, true, true, true, false, false, false] rfl rfl (by kernel_rfl) (fun _ _ _ h => h) (Or.inl ⟨by rfl, ?_⟩) hHeld ?_ ?_
            rotate_left
            · rintro w' ⟨s0, s1, s2, s3, s4, s5⟩
              go_simp
              with_reducible rfl
            rotate_left
            · simp only [Act.put, List.setIfInBounds_toArray, List.set_cons_zero, List.set_cons_succ, i64_w, i32_w]
              rfl
            refine take_ (i := 4) (N := some 16) (v := ?_) (a' := ?_) #[true, true, true, true, true, false, false] rfl rfl (by kernel_rfl) (fun _ _ _ h => h) (Or.inl ⟨by rfl, ?_⟩) hHeld ?_ ?_
            rotate_left
            · rintro w' ⟨s0, s1, s2, s3, s4, s5⟩
              go_simp
              with_reducible rfl
            rotate_left
            · simp only [Act.put, List.setIfInBounds_toArray, List.set_cons_zero, List.set_cons_succ, i64_w, i32_w]
              rfl
            refine one_ (i := 5) (N := some 17) #[true, true, true, true, true, true, false] rfl rfl (by kernel_rfl) (by decide) (fun K hK => ?_)
            refine goes_ Tryz.func77 (by kernel_rfl) rfl #[.agg #[.slice A0_0 l0_0.length c0_0, .slice A0_1 l0_1.length c0_1, .slice A0_2 l0_2.length c0_2, .slice A0_3 l0_3.length c0_3, .slice A0_4 l0_4.length c0_4], .int .i64 (rd l1 x5_1)] (by rfl) rfl rfl (by (try simp only [List.map_toArray, List.map_cons, List.map_nil]); first | done | rfl | (simp only [List.length_drop, List.length_take]; rfl)) ?_
            with_reducible refine (ligatureref10_Vocab_Has.calls k1 _ _ l0_0 _ _ l0_1 _ _ l0_2 _ _ l0_3 _ _ l0_4 (rd l1 x5_1) true _ ?side1 ?side2 ?side3 ?side4 ?side5 ?side6 ?side7 ?side8 ?side9 ?side10 A6.out).mono ?_
            (case side1 => repeat (first | exact (Kd.C_below HR0_0.out HB.out) | (with_reducible refine Kd.C_alloc ?_ _) | (with_reducible refine Kd.C_drewN ?_ _) | (with_reducible refine Kd.C_drew ?_)))
            (case side2 => exact HC0_0.out)
            (case side3 => repeat (first | exact (Kd.C_below HR0_1.out HB.out) | (with_reducible refine Kd.C_alloc ?_ _) | (with_reducible refine Kd.C_drewN ?_ _) | (with_reducible refine Kd.C_drew ?_)))
            (case side4 => exact HC0_1.out)
            (case side5 => repeat (first | exact (Kd.C_below HR0_2.out HB.out) | (with_reducible refine Kd.C_alloc ?_ _) | (with_reducible refine Kd.C_drewN ?_ _) | (with_reducible refine Kd.C_drew ?_)))
            (case side6 => exact HC0_2.out)
            (case side7 => repeat (first | exact (Kd.C_below HR0_3.out HB.out) | (with_reducible refine Kd.C_alloc ?_ _) | (with_reducible refine Kd.C_drewN ?_ _) | (with_reducible refine Kd.C_drew ?_)))
            (case side8 => exact HC0_3.out)
            (case side9 => repeat (first | exact (Kd.C_below HR0_4.out HB.out) | (with_reducible refine Kd.C_alloc ?_ _) | (with_reducible refine Kd.C_drewN ?_ _) | (with_reducible refine Kd.C_drew ?_)))
            (case side10 => exact HC0_4.out)
            rintro e w9 ⟨rfl, hb⟩
            refine ⟨_, rfl, ?_⟩
            have n0_ := Aside0.mk (blk_below (g := gb376) (o := .cells #[.slice A0_0 l0_0.length c0_0, .slice A0_1 l0_1.length c0_1, .slice A0_2 l0_2.length c0_2, .slice A0_3 l0_3.length c0_3, .slice A0_4 l0_4.length c0_4] 38 (0, 0)) (by (with_reducible repeat (first | refine blk_drewN ?_ _ | refine blk_drew ?_ | refine blk_alloc ?_ _)); exact BK376.out) hb)
            have n1_ := Aside0.mk (below_step (by repeat (first | (with_reducible first | exact HB.out | apply below_alloc | apply pw_below_drewN | apply below_drew1 | refine below_set ?_ GE376.out) | exact HB.out)) hb)
            clear BK376
            clear HB
            have BK376 := n0_
            have HB := n1_
            clear n0_ n1_
            (try clear hb)
            (try clear hb2)
            (try clear hk)
            (try clear hi)
            refine hK.out _ _ ⟨(blk_cell BK376.out 0).trans rfl, (blk_cell BK376.out 1).trans rfl, (blk_cell BK376.out 2).trans rfl, (blk_cell BK376.out 3).trans rfl, (blk_cell BK376.out 4).trans rfl, ((HB.out.cell (World.block_lt_of_cell? w _ hw377_0)).trans hw377_0)⟩ (fun hHeld => ?_)
            clear hK K
            refine norm_ (a' := ?_) ?_ ?_
            rotate_left
            · show Act.put _ (some 17) _ = _
              simp only [Act.put, List.setIfInBounds_toArray, List.set_cons_zero, List.set_cons_succ, i64_w, i32_w]
              rfl
            refine pure_ (i := 6) (N := some 18) (v := ?_) (a' := ?_) #[true, true, true, true, true, true, true] rfl rfl (by kernel_rfl) (fun _ _ _ h => h) (Or.inl ⟨by rfl, ?_⟩) ?_ ?_
            rotate_left
            · intro w'
              go_simp
              with_reducible rfl
            rotate_left
            · simp only [Act.put, List.setIfInBounds_toArray, List.set_cons_zero, List.set_cons_succ, i64_w, i32_w]
              rfl
            refine done_ (by kernel_rfl) ?_
            try go_wp2
            go_roundg k1
            case measure => have := HK1.out; omega
            case rel => exact ⟨(wrap64 (x5_1 + 1)), (by first | rfl | (simp; done) | (simp [*]; done)), H', ⟨by have := HK1.out; omega⟩, ⟨by (with_reducible repeat (first | refine blk_drewN ?_ _ | refine blk_drew ?_ | refine blk_alloc ?_ _)); exact BK376.out⟩, ⟨by repeat (first | (with_reducible first | exact HB.out | apply below_alloc | apply pw_below_drewN | apply below_drew1 | refine below_set ?_ GE376.out) | exact HB.out)⟩⟩
          · replace c7 := Bool.eq_false_iff.mpr c7
            subst c7
            have H1 : (some x5_1) = some r := by rw [if_neg (show ¬ (false = true) by decide)] at H; exact H
            clear H
            have H := H1
            clear H1
            obtain rfl := Option.some.inj H
            try go_wp2
            have n0_ := Aside0.mk (blk_drew BK376.out)
            have n1_ := Aside0.mk (below_drew1 HB.out)
            clear BK376
            clear HB
            have BK376 := n0_
            have HB := n1_
            clear n0_ n1_
            have p377 : 0 ≤ (x5_1 : Int) := of_decide_eq_true (by first | (with_reducible assumption) | assumption)
            have q377 : x5_1 < (l1.length : Int) := of_decide_eq_true (by first | (with_reducible assumption) | assumption)
            obtain ⟨ad377, e377, hx377_0⟩ := Kd.at_int HR1.out x5_1 p377 q377
            have hw377_0 := hx377_0
            cases e377
            replace hx377_0 := (HB.out.cell (World.block_lt_of_cell? w _ hx377_0)).trans hx377_0
            replace p377 := eq_true p377
            replace q377 := eq_true q377
            refine start_ (n := 7) (S := fun w' => w'.cell? ⟨gb376, 0, none⟩ = some (.slice A0_0 l0_0.length c0_0) ∧ w'.cell? ⟨gb376, 1, none⟩ = some (.slice A0_1 l0_1.length c0_1) ∧ w'.cell? ⟨gb376, 2, none⟩ = some (.slice A0_2 l0_2.length c0_2) ∧ w'.cell? ⟨gb376, 3, none⟩ = some (.slice A0_3 l0_3.length c0_3) ∧ w'.cell? ⟨gb376, 4, none⟩ = some (.slice A0_4 l0_4.length c0_4) ∧ w'.cell? (ad377.add (x5_1).toNat) = some (.int .i64 (rd l1 x5_1))) (ds := []) #[false, false, false, false, false, false, false] (by kernel_rfl) rfl rfl ⟨(blk_cell BK376.out 0).trans rfl, (blk_cell BK376.out 1).trans rfl, (blk_cell BK376.out 2).trans rfl, (blk_cell BK376.out 3).trans rfl, (blk_cell BK376.out 4).trans rfl, ((HB.out.cell (World.block_lt_of_cell? w _ hw377_0)).trans hw377_0)⟩ (fun hHeld => ?_)
            generalize wr.drew = w10 at BK376 HB hx377_0 hHeld ⊢
            refine pure_ (i := 1) (N := some 13) (v := ?_) (a' := ?_) #[false, true, false, false, false, false, false] rfl rfl (by kernel_rfl) (fun _ _ _ h => h) (Or.inl ⟨by rfl, ?_⟩) ?_ ?_
            rotate_left
            · intro w'
              go_simp
              with_reducible rfl
            rotate_left
            · simp only [Act.put, List.setIfInBounds_toArray, List.set_cons_zero, List.set_cons_succ, i64_w, i32_w]
              rfl
            refine pure_ (i := 2) (N := some 14) (v := ?_) (a' := ?_) #[false, true, true, false, false, false, false] rfl rfl (by kernel_rfl) (fun _ _ _ h => h) (Or.inl ⟨by rfl, ?_⟩) ?_ ?_
            rotate_left
            · intro w'
              go_simp
              with_reducible rfl
            rotate_left
            · simp only [Act.put, List.setIfInBounds_toArray, List.set_cons_zero, List.set_cons_succ, i64_w, i32_w]
              rfl
            refine pure_ (i := 3) (N := some 15) (v := ?_) (a' := ?_) #[false, true, true, true, false, false, false] rfl rfl (by kernel_rfl) (fun _ _ _ h => h) (Or.inl ⟨by rfl, ?_⟩) ?_ ?_
            rotate_left
            · intro w'
              go_simp
              with_reducible rfl
            rotate_left
            · simp only [Act.put, List.setIfInBounds_toArray, List.set_cons_zero, List.set_cons_succ, i64_w, i32_w]
              rfl
            refine take_ (i := 0) (N := some 12) (v := ?_) (a' := ?_) #[true, true, true, true, false, false, false] rfl rfl (by kernel_rfl) (fun _ _ _ h => h) (Or.inl ⟨by rfl, ?_⟩) hHeld ?_ ?_
            rotate_left
            · rintro w' ⟨s0, s1, s2, s3, s4, s5⟩
              go_simp
              with_reducible rfl
            rotate_left
            · simp only [Act.put, List.setIfInBounds_toArray, List.set_cons_zero, List.set_cons_succ, i64_w, i32_w]
              rfl
            refine take_ (i := 4) (N := some 16) (v := ?_) (a' := ?_) #[true, true, true, true, true, false, false] rfl rfl (by kernel_rfl) (fun _ _ _ h => h) (Or.inl ⟨by rfl, ?_⟩) hHeld ?_ ?_
            rotate_left
            · rintro w' ⟨s0, s1, s2, s3, s4, s5⟩
              go_simp
              with_reducible rfl
            rotate_left
            · simp only [Act.put, List.setIfInBounds_toArray, List.set_cons_zero, List.set_cons_succ, i64_w, i32_w]
              rfl
            refine one_ (i := 5) (N := some 17) #[true, true, true, true, true, true, false] rfl rfl (by kernel_rfl) (by decide) (fun K hK => ?_)
            refine goes_ Tryz.func77 (by kernel_rfl) rfl #[.agg #[.slice A0_0 l0_0.length c0_0, .slice A0_1 l0_1.length c0_1, .slice A0_2 l0_2.length c0_2, .slice A0_3 l0_3.length c0_3, .slice A0_4 l0_4.length c0_4], .int .i64 (rd l1 x5_1)] (by rfl) rfl rfl (by (try simp only [List.map_toArray, List.map_cons, List.map_nil]); first | done | rfl | (simp only [List.length_drop, List.length_take]; rfl)) ?_
            with_reducible refine (ligatureref10_Vocab_Has.calls k1 _ _ l0_0 _ _ l0_1 _ _ l0_2 _ _ l0_3 _ _ l0_4 (rd l1 x5_1) false _ ?side1 ?side2 ?side3 ?side4 ?side5 ?side6 ?side7 ?side8 ?side9 ?side10 A6.out).mono ?_
            (case side1 => repeat (first | exact (Kd.C_below HR0_0.out HB.out) | (with_reducible refine Kd.C_alloc ?_ _) | (with_reducible refine Kd.C_drewN ?_ _) | (with_reducible refine Kd.C_drew ?_)))
            (case side2 => exact HC0_0.out)
            (case side3 => repeat (first | exact (Kd.C_below HR0_1.out HB.out) | (with_reducible refine Kd.C_alloc ?_ _) | (with_reducible refine Kd.C_drewN ?_ _) | (with_reducible refine Kd.C_drew ?_)))
            (case side4 => exact HC0_1.out)
            (case side5 => repeat (first | exact (Kd.C_below HR0_2.out HB.out) | (with_reducible refine Kd.C_alloc ?_ _) | (with_reducible refine Kd.C_drewN ?_ _) | (with_reducible refine Kd.C_drew ?_)))
            (case side6 => exact HC0_2.out)
            (case side7 => repeat (first | exact (Kd.C_below HR0_3.out HB.out) | (with_reducible refine Kd.C_alloc ?_ _) | (with_reducible refine Kd.C_drewN ?_ _) | (with_reducible refine Kd.C_drew ?_)))
            (case side8 => exact HC0_3.out)
            (case side9 => repeat (first | exact (Kd.C_below HR0_4.out HB.out) | (with_reducible refine Kd.C_alloc ?_ _) | (with_reducible refine Kd.C_drewN ?_ _) | (with_reducible refine Kd.C_drew ?_)))
            (case side10 => exact HC0_4.out)
            rintro e w11 ⟨rfl, hb⟩
            refine ⟨_, rfl, ?_⟩
            have n0_ := Aside0.mk (blk_below (g := gb376) (o := .cells #[.slice A0_0 l0_0.length c0_0, .slice A0_1 l0_1.length c0_1, .slice A0_2 l0_2.length c0_2, .slice A0_3 l0_3.length c0_3, .slice A0_4 l0_4.length c0_4] 38 (0, 0)) (by (with_reducible repeat (first | refine blk_drewN ?_ _ | refine blk_drew ?_ | refine blk_alloc ?_ _)); exact BK376.out) hb)
            have n1_ := Aside0.mk (below_step (by repeat (first | (with_reducible first | exact HB.out | apply below_alloc | apply pw_below_drewN | apply below_drew1 | refine below_set ?_ GE376.out) | exact HB.out)) hb)
            clear BK376
            clear HB
            have BK376 := n0_
            have HB := n1_
            clear n0_ n1_
            (try clear hb)
            (try clear hb2)
            (try clear hk)
            (try clear hi)
            refine hK.out _ _ ⟨(blk_cell BK376.out 0).trans rfl, (blk_cell BK376.out 1).trans rfl, (blk_cell BK376.out 2).trans rfl, (blk_cell BK376.out 3).trans rfl, (blk_cell BK376.out 4).trans rfl, ((HB.out.cell (World.block_lt_of_cell? w _ hw377_0)).trans hw377_0)⟩ (fun hHeld => ?_)
            clear hK K
            refine norm_ (a' := ?_) ?_ ?_
            rotate_left
            · show Act.put _ (some 17) _ = _
              simp only [Act.put, List.setIfInBounds_toArray, List.set_cons_zero, List.set_cons_succ, i64_w, i32_w]
              rfl
            refine pure_ (i := 6) (N := some 18) (v := ?_) (a' := ?_) #[true, true, true, true, true, true, true] rfl rfl (by kernel_rfl) (fun _ _ _ h => h) (Or.inl ⟨by rfl, ?_⟩) ?_ ?_
            rotate_left
            · intro w'
              go_simp
              with_reducible rfl
            rotate_left
            · simp only [Act.put, List.setIfInBounds_toArray, List.set_cons_zero, List.set_cons_succ, i64_w, i32_w]
              rfl
            refine done_ (by kernel_rfl) ?_
            try go_wp2
            go_ret
            exact ⟨by first | rfl | (simp [errW_none, errW_some] <;> rfl) | (simp [*, errW_none, errW_some] <;> rfl), by repeat (first | (with_reducible first | exact HB.out | apply below_alloc | apply pw_below_drewN | apply below_drew1 | refine below_set ?_ GE376.out) | exact HB.out)⟩
        · rw [if_neg c5] at H
          exact absurd H (by simp)
      · rw [if_neg c4] at H
        have c4b0 : decide (x5_1 < (l1.length : Int)) = false := decide_eq_false c4
        clear c4
        obtain rfl := Option.some.inj H
        go_wp2
        go_ret
        exact ⟨by first | rfl | (simp [errW_none, errW_some] <;> rfl) | (simp [*, errW_none, errW_some] <;> rfl), by repeat (first | (with_reducible first | exact HB.out | apply below_alloc | apply pw_below_drewN | apply below_drew1 | refine below_set ?_ GE376.out) | exact HB.out)⟩
end Go.Proofs.YtkffhgiiejbnaaaGreat.Rf
