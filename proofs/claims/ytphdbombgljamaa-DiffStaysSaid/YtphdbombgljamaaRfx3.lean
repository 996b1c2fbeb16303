-- PRINTED by print.py (a twelfth state) out of the translation. Not trusted: Lean checks it.
import Derived.Test.YtphdbombgljamaaRfx0
namespace Go.Proofs.Ytphdbombgljamaa.Rf
open Go.RowKit Go.Proofs.YtphdbombgljamaaW.PrintWords Go.Proofs.YtphdbombgljamaaW.PrintLast Go.Proofs.YtphdbombgljamaaW.PrintMore
attribute [local go_sem] max2_int min2_int max_two min_two max_three min_three max_four min_four   -- for this text's walks alone
set_option linter.unusedVariables false
set_option linter.unusedSimpArgs false

/-! ### ligatureref31_Lengths: function 24 -/
mutual
def ligatureref31_Lengths.l0 : Nat → List Int → List Int → List (List Int) → Int → Option ((List (List Int)))
  | 0, _, _, _, _ => none
  | k + 1, x0, x1, x5, x6 => if x6 ≤ (x0.length : Int) then (if 0 ≤ (wrap64 ((x1.length : Int) + 1)) then (if (wrap64 ((x1.length : Int) + 1) : Int).toNat ≤ 35184372088832 then (if x5.length < 5864062014805 then (ligatureref31_Lengths.l0 k x0 x1 (x5 ++ [(List.replicate (wrap64 ((x1.length : Int) + 1) : Int).toNat 0)]) (wrap64 (x6 + 1))) else (none)) else (none)) else (none)) else (ligatureref31_Lengths.l1 k x0 x1 x5 (wrap64 ((x0.length : Int) - 1)))
def ligatureref31_Lengths.l1 : Nat → List Int → List Int → List (List Int) → Int → Option ((List (List Int)))
  | 0, _, _, _, _ => none
  | k + 1, x0, x1, x5, x7 => if x7 ≥ 0 then (ligatureref31_Lengths.l2 k x0 x1 x5 x7 (wrap64 ((x1.length : Int) - 1))) else (some x5)
def ligatureref31_Lengths.l2 : Nat → List Int → List Int → List (List Int) → Int → Int → Option ((List (List Int)))
  | 0, _, _, _, _, _ => none
  | k + 1, x0, x1, x5, x7, x8 => if x8 ≥ 0 then (if 0 ≤ x7 then (if x7 < (x5.length : Int) then (if 0 ≤ (wrap64 (x7 + 1)) then (if (wrap64 (x7 + 1)) < (x5.length : Int) then (if 0 ≤ x8 then (if x8 < ((rd_L3 x5 (wrap64 (x7 + 1))).length : Int) then (if 0 ≤ (wrap64 (x8 + 1)) then (if (wrap64 (x8 + 1)) < ((rd_L3 x5 x7).length : Int) then (if x8 < ((rd_L3 x5 x7).length : Int) then ((some (x5.set (x7 : Int).toNat ((rd_L3 x5 x7).set (x8 : Int).toNat (mx (rd (rd_L3 x5 (wrap64 (x7 + 1))) x8) (rd (rd_L3 x5 x7) (wrap64 (x8 + 1))))) : List (List Int))).bind fun y167 => (if x7 < (x0.length : Int) then (if x8 < (x1.length : Int) then (if (rd x0 x7) = (rd x1 x8) then (if x8 < ((rd_L3 y167 x7).length : Int) then (if (wrap64 (x8 + 1)) < ((rd_L3 y167 (wrap64 (x7 + 1))).length : Int) then (ligatureref31_Lengths.l2 k x0 x1 (y167.set (x7 : Int).toNat ((rd_L3 y167 x7).set (x8 : Int).toNat (mx (rd (rd_L3 y167 x7) x8) (wrap64 ((rd (rd_L3 y167 (wrap64 (x7 + 1))) (wrap64 (x8 + 1))) + 1))))) x7 (wrap64 (x8 - 1))) else (none)) else (none)) else (ligatureref31_Lengths.l2 k x0 x1 y167 x7 (wrap64 (x8 - 1)))) else (none)) else (none))) else (none)) else (none)) else (none)) else (none)) else (none)) else (none)) else (none)) else (none)) else (none)) else (ligatureref31_Lengths.l1 k x0 x1 x5 (wrap64 (x7 - 1)))
end
def ligatureref31_Lengths.f (k : Nat) (l0 : List Int) (l1 : List Int) : Option ((List (List Int))) := ligatureref31_Lengths.l0 k l0 l1 ([] : List (List Int)) 0
theorem ligatureref31_Lengths.mono_l : ∀ k, (∀ y0 y1 y2 y3, LeO (ligatureref31_Lengths.l0 k y0 y1 y2 y3) (ligatureref31_Lengths.l0 (k + 1) y0 y1 y2 y3)) ∧ (∀ y0 y1 y2 y3, LeO (ligatureref31_Lengths.l1 k y0 y1 y2 y3) (ligatureref31_Lengths.l1 (k + 1) y0 y1 y2 y3)) ∧ (∀ y0 y1 y2 y3 y4, LeO (ligatureref31_Lengths.l2 k y0 y1 y2 y3 y4) (ligatureref31_Lengths.l2 (k + 1) y0 y1 y2 y3 y4))
  | 0 => ⟨fun _ _ _ _ r h => by simp [ligatureref31_Lengths.l0] at h, fun _ _ _ _ r h => by simp [ligatureref31_Lengths.l1] at h, fun _ _ _ _ _ r h => by simp [ligatureref31_Lengths.l2] at h⟩
  | k + 1 => by
    obtain ⟨ih0, ih1, ih2⟩ := ligatureref31_Lengths.mono_l k
    refine ⟨?_, ?_, ?_⟩
    · intro y0 y1 y2 y3
      unfold ligatureref31_Lengths.l0
      repeat' first
      | (with_reducible exact ih0 _ _ _ _)
      | (with_reducible exact ih1 _ _ _ _)
      | (with_reducible exact ih2 _ _ _ _ _)
      | (with_reducible exact LeO.refl _)
      | (with_reducible exact LeO.none _)
      | (with_reducible refine LeO.ite ?_ ?_)
      | (with_reducible refine LeO.bind ?_ (fun _ => ?_))
      | exact ih0 _ _ _ _
      | exact ih1 _ _ _ _
      | exact ih2 _ _ _ _ _
      | exact LeO.none _
      | refine LeO.ite ?_ ?_
      | refine LeO.bind ?_ (fun _ => ?_)
    · intro y0 y1 y2 y3
      unfold ligatureref31_Lengths.l1
      repeat' first
      | (with_reducible exact ih0 _ _ _ _)
      | (with_reducible exact ih1 _ _ _ _)
      | (with_reducible exact ih2 _ _ _ _ _)
      | (with_reducible exact LeO.refl _)
      | (with_reducible exact LeO.none _)
      | (with_reducible refine LeO.ite ?_ ?_)
      | (with_reducible refine LeO.bind ?_ (fun _ => ?_))
      | exact ih0 _ _ _ _
      | exact ih1 _ _ _ _
      | exact ih2 _ _ _ _ _
      | exact LeO.none _
      | refine LeO.ite ?_ ?_
      | refine LeO.bind ?_ (fun _ => ?_)
    · intro y0 y1 y2 y3 y4
      unfold ligatureref31_Lengths.l2
      repeat' first
      | (with_reducible exact ih0 _ _ _ _)
      | (with_reducible exact ih1 _ _ _ _)
      | (with_reducible exact ih2 _ _ _ _ _)
      | (with_reducible exact LeO.refl _)
      | (with_reducible exact LeO.none _)
      | (with_reducible refine LeO.ite ?_ ?_)
      | (with_reducible refine LeO.bind ?_ (fun _ => ?_))
      | exact ih0 _ _ _ _
      | exact ih1 _ _ _ _
      | exact ih2 _ _ _ _ _
      | exact LeO.none _
      | refine LeO.ite ?_ ?_
      | refine LeO.bind ?_ (fun _ => ?_)
theorem ligatureref31_Lengths.mono : ∀ a0 a1 k, LeO (ligatureref31_Lengths.f k a0 a1) (ligatureref31_Lengths.f (k + 1) a0 a1) := by
  intro a0 a1 k
  obtain ⟨ih0, ih1, ih2⟩ := ligatureref31_Lengths.mono_l k
  unfold ligatureref31_Lengths.f
  repeat' first
      | (with_reducible exact ih0 _ _ _ _)
      | (with_reducible exact ih1 _ _ _ _)
      | (with_reducible exact ih2 _ _ _ _ _)
      | (with_reducible exact LeO.refl _)
      | (with_reducible exact LeO.none _)
      | (with_reducible refine LeO.ite ?_ ?_)
      | (with_reducible refine LeO.bind ?_ (fun _ => ?_))
      | exact ih0 _ _ _ _
      | exact ih1 _ _ _ _
      | exact ih2 _ _ _ _ _
      | exact LeO.none _
      | refine LeO.ite ?_ ?_
      | refine LeO.bind ?_ (fun _ => ?_)
def ligatureref31_Lengths.T12 : Bool × List (List Nat × List Nat) := (true, [([], []), ([], []), ([0, 1], [0, 1]), ([2], [2]), ([], []), ([], []), ([], []), ([6], [6]), ([5, 7], [5, 7]), ([8], [8]), ([], []), ([9, 10], [9, 10]), ([11], [11]), ([], []), ([], []), ([13, 14], [13, 14]), ([15], [15]), ([], []), ([17], [17]), ([16, 18], [16, 18]), ([19], [19]), ([12, 20], [12, 20]), ([3, 4, 0, 1, 2, 3, 4, 5, 6, 7, 8, 9, 10, 11, 12, 13, 14, 15, 16, 17, 18, 19, 20, 21], [3, 4]), ([22, 21, 0, 1, 2, 3, 4, 5, 6, 7, 8, 9, 10, 11, 12, 13, 14, 15, 16, 17, 18, 19, 20, 21], [21, 22])])
def ligatureref31_Lengths.B12 : List Nat := [0, 0, 3, 7, 0, 0, 0, 64, 224, 480, 0, 2016, 4064, 0, 0, 24576, 57344, 0, 131072, 516096, 1040384, 2097120, 4194303, 8388607]
theorem ligatureref31_Lengths.tab12 : rtab .any (opsOf Try.f24 12) = ligatureref31_Lengths.T12 := by kernel_rfl
theorem ligatureref31_Lengths.bits12 : waitsOk ligatureref31_Lengths.T12.2 ligatureref31_Lengths.B12 = true := by kernel_rfl
def ligatureref31_Lengths.T13 : Bool × List (List Nat × List Nat) := (true, [([], []), ([], []), ([0, 1], [0, 1]), ([2], [2]), ([], []), ([], []), ([4, 5], [4, 5]), ([6], [6]), ([3, 7], [3, 7])])
def ligatureref31_Lengths.B13 : List Nat := [0, 0, 3, 7, 0, 0, 48, 112, 255]
theorem ligatureref31_Lengths.tab13 : rtab .any (opsOf Try.f24 13) = ligatureref31_Lengths.T13 := by kernel_rfl
theorem ligatureref31_Lengths.bits13 : waitsOk ligatureref31_Lengths.T13.2 ligatureref31_Lengths.B13 = true := by kernel_rfl
def ligatureref31_Lengths.T14 : Bool × List (List Nat × List Nat) := (true, [([], []), ([], []), ([0, 1], [0, 1]), ([2], [2]), ([], []), ([], []), ([], []), ([5, 6], [5, 6]), ([7], [7]), ([], []), ([8, 9], [8, 9]), ([10], [10]), ([], []), ([], []), ([13], [13]), ([12, 14], [12, 14]), ([15], [15]), ([], []), ([17], [17]), ([16, 18], [16, 18]), ([19], [19]), ([20], [20]), ([11, 21], [11, 21]), ([3, 4, 0, 1, 2, 3, 4, 5, 6, 7, 8, 9, 10, 11, 12, 13, 14, 15, 16, 17, 18, 19, 20, 21, 22], [3, 4]), ([23, 22, 0, 1, 2, 3, 4, 5, 6, 7, 8, 9, 10, 11, 12, 13, 14, 15, 16, 17, 18, 19, 20, 21, 22], [22, 23])])
def ligatureref31_Lengths.B14 : List Nat := [0, 0, 3, 7, 0, 0, 0, 96, 224, 0, 992, 2016, 0, 0, 8192, 28672, 61440, 0, 131072, 520192, 1044480, 2093056, 4194272, 8388607, 16777215]
theorem ligatureref31_Lengths.tab14 : rtab .any (opsOf Try.f24 14) = ligatureref31_Lengths.T14 := by kernel_rfl
theorem ligatureref31_Lengths.bits14 : waitsOk ligatureref31_Lengths.T14.2 ligatureref31_Lengths.B14 = true := by kernel_rfl
set_option maxHeartbeats 8000000 in
set_option maxRecDepth 100000 in
theorem ligatureref31_Lengths.calls (k : Nat) (A0 : Option Addr) (c0 : Nat) (l0 : List Int) (A1 : Option Addr) (c1 : Nat) (l1 : List Int) (r : List (List Int)) (w : World) (hr0 : Kd.C (Kd.int .i64) w A0 l0.length l0) (hc0 : l0.length ≤ c0) (hr1 : Kd.C (Kd.int .i64) w A1 l1.length l1) (hc1 : l1.length ≤ c1) (h : ligatureref31_Lengths.f k l0 l1 = some r) :
    Calls Try.prog 24 #[.slice A0 l0.length c0, .slice A1 l1.length c1] w fun e w' => ∃ v0_ : Value, e = .returned (v0_) ∧ Kd.S (Kd.slice 3 (Kd.int .i64)) 33 w' w.heap.size (fun _ => True) v0_ r ∧ Below w.heap.size w w' := by
  have HR0 := Aside0.mk hr0
  have HC0 := Aside0.mk hc0
  clear hr0 hc0
  have HR1 := Aside0.mk hr1
  have HC1 := Aside0.mk hc1
  clear hr1 hc1
  have HB := Aside0.mk (Below.refl w.heap.size w)
  have H : (ligatureref31_Lengths.l0 k l0 l1 ([] : List (List Int)) 0) = some r := h
  clear h
  have H' := Aside0.mk H
  clear H
  go_enter Try.func24, Try.ntmps24
  go_wp2
  go_loopg [5, 6] k (fun kq v5 v6 w' => ∃ (x5_1 : List (List Int)) (x6_1 : Int), v6 = .int .i64 x6_1 ∧ Aside0 (ligatureref31_Lengths.l0 kq l0 l1 x5_1 x6_1 = some r) ∧ Aside0 (kq ≤ k) ∧ Aside0 (Kd.S (Kd.slice 3 (Kd.int .i64)) 33 w' w.heap.size (fun _ => True) v5 x5_1) ∧ Aside0 (Below w.heap.size w w'))
  case atStart => exact ⟨(([] : List (List Int))), (0), (by first | rfl | (simp; done) | (simp [*]; done)), H', ⟨Nat.le_refl _⟩, ⟨by first | exact Kd.S_nil _ _ _ _ _ | exact Kd.N_nil _ _ _ _ _ | exact Kd.V_nil _ _ _ _ _ | exact Kd.Q_nil _ _ _ _ _ | exact Kd.R_nil _ _ _ _ _⟩, ⟨by repeat (first | (with_reducible first | exact HB.out | apply below_alloc | apply pw_below_drewN | apply below_drew1) | exact HB.out)⟩⟩
  case round =>
    clear H'
    try clear c1
    try clear c2
    try clear p2
    obtain ⟨x5_1, x6_1, rfl, HA, HK1, HO_5, HB⟩ := hrel
    cases gk with
    | zero => exact absurd HA.out (by simp [ligatureref31_Lengths.l0])
    | succ k1 =>
      have H := HA.out
      clear HA
      simp only [ligatureref31_Lengths.l0] at H
      by_cases c3 : x6_1 ≤ (l0.length : Int)
      · rw [if_pos c3] at H
        have c3b0 : decide (x6_1 ≤ (l0.length : Int)) = true := decide_eq_true c3
        clear c3
        obtain ⟨ji4, hji4⟩ : ∃ j_ : Int, (wrap64 ((l1.length : Int) + 1)) = j_ := ⟨_, rfl⟩
        replace H : (if 0 ≤ (ji4) then (if (ji4 : Int).toNat ≤ 35184372088832 then (if x5_1.length < 5864062014805 then (ligatureref31_Lengths.l0 k1 l0 l1 (x5_1 ++ [(List.replicate (ji4 : Int).toNat 0)]) (wrap64 (x6_1 + 1))) else (none)) else (none)) else (none)) = some r := by first | (rw [hji4] at H; exact H) | (simp only [hji4] at H ⊢; exact H)
        have hji4w : (IntKind.i64.wrap ((l1.length : Int) + 1)) = ji4 := (i64_w _).trans hji4
        by_cases c5 : 0 ≤ (ji4)
        · rw [if_pos c5] at H
          have c5b0 := eq_true c5
          have c5b1 : decide (0 ≤ (ji4)) = true := decide_eq_true c5
          clear c5
          by_cases c6 : (ji4 : Int).toNat ≤ 35184372088832
          · rw [if_pos c6] at H
            have c6b0 := eq_true c6
            have c6b1 : decide ((ji4 : Int).toNat ≤ 35184372088832) = true := decide_eq_true c6
            clear c6
            obtain ⟨y154, hy154⟩ : ∃ y_ : List Int, y_ = (List.replicate (ji4 : Int).toNat 0) := ⟨_, rfl⟩
            replace H : (if x5_1.length < 5864062014805 then (ligatureref31_Lengths.l0 k1 l0 l1 (x5_1 ++ [y154]) (wrap64 (x6_1 + 1))) else (none)) = some r := by first | (rw [hy154]; with_reducible exact H) | (have H2_ := (Option.bind_some _ _).symm.trans H; rw [hy154]; with_reducible exact H2_) | (have H2_ := (Option.bind_some _ _).symm.trans H; with_reducible exact H2_) | with_reducible exact H | (rw [hy154]; exact H) | exact H
            have Ny154 := Aside0.mk hy154
            clear hy154
            by_cases c7 : x5_1.length < 5864062014805
            · rw [if_pos c7] at H
              have LMc7 := Aside0.mk c7
              clear c7
              obtain ⟨y157, hy157⟩ : ∃ y_ : List (List Int), y_ = (x5_1 ++ [y154]) := ⟨_, rfl⟩
              replace H : (ligatureref31_Lengths.l0 k1 l0 l1 y157 (wrap64 (x6_1 + 1))) = some r := by first | (rw [hy157]; with_reducible exact H) | (have H2_ := (Option.bind_some _ _).symm.trans H; rw [hy157]; with_reducible exact H2_) | (have H2_ := (Option.bind_some _ _).symm.trans H; with_reducible exact H2_) | with_reducible exact H | (rw [hy157]; exact H) | exact H
              have Ny157 := Aside0.mk hy157
              clear hy157
              have H' := Aside0.mk H
              clear H
              go_wp2_with (first | ((with_reducible refine gate_dst (N := 19) rfl ?_); refine Kd.R_make (Kd.int .i64) _ 3 rfl (N := 19) rfl 33 _ _ rfl ji4 rfl rfl Try.underlying33 (.int .i64 0) 8 info3 rfl (by decide) (by omega) 0 (ok := fun _ => True) (okp := fun _ => True) rfl (fun _ hk => hk) trivial (of_decide_eq_true (by first | (with_reducible assumption) | assumption)) (Nat.le_trans (Nat.mul_le_mul_right _ (of_decide_eq_true (by first | (with_reducible assumption) | assumption) : ji4.toNat ≤ 35184372088832)) (by omega)) (Below.refl _ _) (Nat.le_refl _) ?_; intro v155 w8 ho9 hb hg_ hnew_; clear hg_ hnew_; (first | rw [← Ny154.out] at ho9 | (simp only [Int.reduceToNat] at ho9; rw [← Ny154.out] at ho9)); have n0_ := Aside0.mk (Kd.S_elder' (by (with_reducible repeat (first | apply Kd.S_alloc | apply Kd.S_drewN | apply Kd.S_drew)); exact HO_5.out) (Kd.R_base ho9) hb); have n1_ := Aside0.mk (Kd.R_lower ho9 (below_size (by repeat (first | (with_reducible first | exact HB.out | apply below_alloc | apply pw_below_drewN | apply below_drew1) | exact HB.out)))); have n2_ := Aside0.mk (below_step (by repeat (first | (with_reducible first | exact HB.out | apply below_alloc | apply pw_below_drewN | apply below_drew1) | exact HB.out)) hb); clear HO_5; clear HB; have HO_5 := n0_; have HO156 := n1_; have HB := n2_; clear n0_ n1_ n2_; clear hb ho9; obtain ⟨Ao11, co11, eo11⟩ := Kd.R_slice HO156.out; subst eo11) | ((with_reducible refine gate_builtin (b := .append) (xs := #[.tmp 15, .tmp 20]) rfl ?_); at_builtin; refine Kd.S_append (Kd.slice 3 (Kd.int .i64)) (w0 := w) w.heap.size rfl (.tmp 15) (.tmp 20) 46 33 (.slice none 0 0) 24 rfl Try.underlying46 info33 rfl (by decide) (by omega) u5 x5_1 y154 [.slice Ao11 y154.length co11] (fun _ => True) (fun k_ => some k_ = (.slice Ao11 y154.length co11 : Value).ownBlock) rfl rfl ?aP (fun k_ hk_ => ((Kd.R_mono (ok' := fun k_ => ((fun _ => True)) k_ ∧ some k_ ≠ (u5 : Value).ownBlock) (Kd.R_apart' (HO156.out) (Kd.S_typed HO_5.out) (by decide)) (fun k_ hk => ⟨trivial, hk.2⟩))).1 k_ hk_.symm) ?aF ?aO ?aB ?aS ?aL ?_; (case aP => exact Kd.M_row (Kd.R_mono (Kd.R_tight rfl (Kd.R_mono (ok' := fun k_ => ((fun _ => True)) k_ ∧ some k_ ≠ (u5 : Value).ownBlock) (Kd.R_apart' (HO156.out) (Kd.S_typed HO_5.out) (by decide)) (fun k_ hk => ⟨trivial, hk.2⟩))) (fun _ h_ => h_))); (case aB => exact (by repeat (first | (with_reducible first | exact HB.out | apply below_alloc | apply pw_below_drewN | apply below_drew1) | exact HB.out))); (case aF => exact (fun _ _ => trivial)); (case aO => exact (by (with_reducible repeat (first | apply Kd.S_alloc | apply Kd.S_drewN | apply Kd.S_drew)); exact Kd.S_mono HO_5.out (fun k_ hk => ⟨trivial, fun e_ => hk.2 e_⟩))); (case aS => exact (below_size (by repeat (first | (with_reducible first | exact HB.out | apply below_alloc | apply pw_below_drewN | apply below_drew1) | exact HB.out)))); (case aL => have := LMc7.out; omega); intro v158 w10 ho hb hg hat; rw [← Ny157.out] at ho; have n0_ := Aside0.mk (hb); have n1_ := Aside0.mk (ho); clear HB; clear HO_5; clear HO156; have HB := n0_; have HO159 := n1_; clear n0_ n1_; clear ho hb hg hat))
              go_roundg k1
              case measure => have := HK1.out; omega
              case rel => exact ⟨(y157), (wrap64 (x6_1 + 1)), (by first | rfl | (simp; done) | (simp [*]; done)), H', ⟨by have := HK1.out; omega⟩, ⟨by (with_reducible repeat (first | apply Kd.S_alloc | apply Kd.S_drewN | apply Kd.S_drew)); exact HO159.out⟩, ⟨by repeat (first | (with_reducible first | exact HB.out | apply below_alloc | apply pw_below_drewN | apply below_drew1) | exact HB.out)⟩⟩
            · rw [if_neg c7] at H
              exact absurd H (by simp)
          · rw [if_neg c6] at H
            exact absurd H (by simp)
        · rw [if_neg c5] at H
          exact absurd H (by simp)
      · rw [if_neg c3] at H
        have c3b0 : decide (x6_1 ≤ (l0.length : Int)) = false := decide_eq_false c3
        clear c3
        have H' := Aside0.mk H
        clear H
        go_wp2
        go_loopg [7] k1 (fun kq v7 w' => ∃ (x5_2 : List (List Int)) (x7_2 : Int), v7 = .int .i64 x7_2 ∧ Aside0 (ligatureref31_Lengths.l1 kq l0 l1 x5_2 x7_2 = some r) ∧ Aside0 (kq ≤ k1) ∧ Aside0 (Kd.S (Kd.slice 3 (Kd.int .i64)) 33 w' w.heap.size (fun _ => True) u5 x5_2) ∧ Aside0 (Below w.heap.size w w'))
        case atStart => exact ⟨(x5_1), (wrap64 ((l0.length : Int) - 1)), (by first | rfl | (simp; done) | (simp [*]; done)), H', ⟨Nat.le_refl _⟩, ⟨by (with_reducible repeat (first | apply Kd.S_alloc | apply Kd.S_drewN | apply Kd.S_drew)); exact HO_5.out⟩, ⟨by repeat (first | (with_reducible first | exact HB.out | apply below_alloc | apply pw_below_drewN | apply below_drew1) | exact HB.out)⟩⟩
        case round =>
          clear H'
          try clear c1
          try clear c2
          try clear p2
          try clear c3
          try clear c3b0
          try clear c5
          try clear c5b0
          try clear c5b1
          try clear c6
          try clear c6b0
          try clear c6b1
          try clear p6
          try clear c7
          try clear p2
          obtain ⟨x5_2, x7_2, rfl, HA, HK2, HO_5, HB⟩ := hrel
          cases gk with
          | zero => exact absurd HA.out (by simp [ligatureref31_Lengths.l1])
          | succ k2 =>
            have H := HA.out
            clear HA
            simp only [ligatureref31_Lengths.l1] at H
            by_cases c12 : x7_2 ≥ 0
            · rw [if_pos c12] at H
              have c12b0 : decide (0 ≤ x7_2) = true := decide_eq_true c12
              clear c12
              have H' := Aside0.mk H
              clear H
              go_wp2
              go_loopg [8] k2 (fun kq v8 w' => ∃ (x5_3 : List (List Int)) (x8_3 : Int), v8 = .int .i64 x8_3 ∧ Aside0 (ligatureref31_Lengths.l2 kq l0 l1 x5_3 x7_2 x8_3 = some r) ∧ Aside0 (kq ≤ k2) ∧ Aside0 (Kd.S (Kd.slice 3 (Kd.int .i64)) 33 w' w.heap.size (fun _ => True) u5 x5_3) ∧ Aside0 (Below w.heap.size w w'))
              case atStart => exact ⟨(x5_2), (wrap64 ((l1.length : Int) - 1)), (by first | rfl | (simp; done) | (simp [*]; done)), H', ⟨Nat.le_refl _⟩, ⟨by (with_reducible repeat (first | apply Kd.S_alloc | apply Kd.S_drewN | apply Kd.S_drew)); exact HO_5.out⟩, ⟨by repeat (first | (with_reducible first | exact HB.out | apply below_alloc | apply pw_below_drewN | apply below_drew1) | exact HB.out)⟩⟩
              case round =>
                clear H'
                try clear c1
                try clear c2
                try clear p2
                try clear c3
                try clear c3b0
                try clear c5
                try clear c5b0
                try clear c5b1
                try clear c6
                try clear c6b0
                try clear c6b1
                try clear p6
                try clear c7
                try clear c12
                try clear c12b0
                try clear p2
                try clear p6
                obtain ⟨x5_3, x8_3, rfl, HA, HK3, HO_5, HB⟩ := hrel
                cases gk with
                | zero => exact absurd HA.out (by simp [ligatureref31_Lengths.l2])
                | succ k3 =>
                  have H := HA.out
                  clear HA
                  simp only [ligatureref31_Lengths.l2] at H
                  by_cases c13 : x8_3 ≥ 0
                  · rw [if_pos c13] at H
                    have c13b0 : decide (0 ≤ x8_3) = true := decide_eq_true c13
                    clear c13
                    by_cases c14 : 0 ≤ x7_2
                    · rw [if_pos c14] at H
                      have c14b0 : decide (0 ≤ x7_2) = true := decide_eq_true c14
                      clear c14
                      by_cases c15 : x7_2 < (x5_3.length : Int)
                      · rw [if_pos c15] at H
                        have c15b0 : decide (x7_2 < (x5_3.length : Int)) = true := decide_eq_true c15
                        clear c15
                        obtain ⟨ji16, hji16⟩ : ∃ j_ : Int, (wrap64 (x7_2 + 1)) = j_ := ⟨_, rfl⟩
                        replace H : (if 0 ≤ (ji16) then (if (ji16) < (x5_3.length : Int) then (if 0 ≤ x8_3 then (if x8_3 < ((rd_L3 x5_3 (ji16)).length : Int) then (if 0 ≤ (wrap64 (x8_3 + 1)) then (if (wrap64 (x8_3 + 1)) < ((rd_L3 x5_3 x7_2).length : Int) then (if x8_3 < ((rd_L3 x5_3 x7_2).length : Int) then ((some (x5_3.set (x7_2 : Int).toNat ((rd_L3 x5_3 x7_2).set (x8_3 : Int).toNat (mx (rd (rd_L3 x5_3 (ji16)) x8_3) (rd (rd_L3 x5_3 x7_2) (wrap64 (x8_3 + 1))))) : List (List Int))).bind fun y167 => (if x7_2 < (l0.length : Int) then (if x8_3 < (l1.length : Int) then (if (rd l0 x7_2) = (rd l1 x8_3) then (if x8_3 < ((rd_L3 y167 x7_2).length : Int) then (if (wrap64 (x8_3 + 1)) < ((rd_L3 y167 (ji16)).length : Int) then (ligatureref31_Lengths.l2 k3 l0 l1 (y167.set (x7_2 : Int).toNat ((rd_L3 y167 x7_2).set (x8_3 : Int).toNat (mx (rd (rd_L3 y167 x7_2) x8_3) (wrap64 ((rd (rd_L3 y167 (ji16)) (wrap64 (x8_3 + 1))) + 1))))) x7_2 (wrap64 (x8_3 - 1))) else (none)) else (none)) else (ligatureref31_Lengths.l2 k3 l0 l1 y167 x7_2 (wrap64 (x8_3 - 1)))) else (none)) else (none))) else (none)) else (none)) else (none)) else (none)) else (none)) else (none)) else (none)) = some r := by first | (rw [hji16] at H; exact H) | (simp only [hji16] at H ⊢; exact H)
                        have hji16w : (IntKind.i64.wrap (x7_2 + 1)) = ji16 := (i64_w _).trans hji16
                        by_cases c17 : 0 ≤ (ji16)
                        · rw [if_pos c17] at H
                          have c17b0 : decide (0 ≤ (ji16)) = true := decide_eq_true c17
                          clear c17
                          by_cases c18 : (ji16) < (x5_3.length : Int)
                          · rw [if_pos c18] at H
                            have c18b0 : decide ((ji16) < (x5_3.length : Int)) = true := decide_eq_true c18
                            clear c18
                            by_cases c19 : 0 ≤ x8_3
                            · rw [if_pos c19] at H
                              have c19b0 : decide (0 ≤ x8_3) = true := decide_eq_true c19
                              clear c19
                              by_cases c20 : x8_3 < ((rd_L3 x5_3 (ji16)).length : Int)
                              · rw [if_pos c20] at H
                                have c20b0 : decide (x8_3 < ((rd_L3 x5_3 (ji16)).length : Int)) = true := decide_eq_true c20
                                clear c20
                                obtain ⟨ji21, hji21⟩ : ∃ j_ : Int, (wrap64 (x8_3 + 1)) = j_ := ⟨_, rfl⟩
                                replace H : (if 0 ≤ (ji21) then (if (ji21) < ((rd_L3 x5_3 x7_2).length : Int) then (if x8_3 < ((rd_L3 x5_3 x7_2).length : Int) then ((some (x5_3.set (x7_2 : Int).toNat ((rd_L3 x5_3 x7_2).set (x8_3 : Int).toNat (mx (rd (rd_L3 x5_3 (ji16)) x8_3) (rd (rd_L3 x5_3 x7_2) (ji21)))) : List (List Int))).bind fun y167 => (if x7_2 < (l0.length : Int) then (if x8_3 < (l1.length : Int) then (if (rd l0 x7_2) = (rd l1 x8_3) then (if x8_3 < ((rd_L3 y167 x7_2).length : Int) then (if (ji21) < ((rd_L3 y167 (ji16)).length : Int) then (ligatureref31_Lengths.l2 k3 l0 l1 (y167.set (x7_2 : Int).toNat ((rd_L3 y167 x7_2).set (x8_3 : Int).toNat (mx (rd (rd_L3 y167 x7_2) x8_3) (wrap64 ((rd (rd_L3 y167 (ji16)) (ji21)) + 1))))) x7_2 (wrap64 (x8_3 - 1))) else (none)) else (none)) else (ligatureref31_Lengths.l2 k3 l0 l1 y167 x7_2 (wrap64 (x8_3 - 1)))) else (none)) else (none))) else (none)) else (none)) else (none)) = some r := by first | (rw [hji21] at H; exact H) | (simp only [hji21] at H ⊢; exact H)
                                have hji21w : (IntKind.i64.wrap (x8_3 + 1)) = ji21 := (i64_w _).trans hji21
                                by_cases c22 : 0 ≤ (ji21)
                                · rw [if_pos c22] at H
                                  have c22b0 : decide (0 ≤ (ji21)) = true := decide_eq_true c22
                                  clear c22
                                  by_cases c23 : (ji21) < ((rd_L3 x5_3 x7_2).length : Int)
                                  · rw [if_pos c23] at H
                                    have c23b0 : decide ((ji21) < ((rd_L3 x5_3 x7_2).length : Int)) = true := decide_eq_true c23
                                    clear c23
                                    obtain ⟨ji24, hji24⟩ : ∃ j_ : Int, (mx (rd (rd_L3 x5_3 (ji16)) x8_3) (rd (rd_L3 x5_3 x7_2) (ji21))) = j_ := ⟨_, rfl⟩
                                    replace H : (if x8_3 < ((rd_L3 x5_3 x7_2).length : Int) then ((some (x5_3.set (x7_2 : Int).toNat ((rd_L3 x5_3 x7_2).set (x8_3 : Int).toNat (ji24)) : List (List Int))).bind fun y167 => (if x7_2 < (l0.length : Int) then (if x8_3 < (l1.length : Int) then (if (rd l0 x7_2) = (rd l1 x8_3) then (if x8_3 < ((rd_L3 y167 x7_2).length : Int) then (if (ji21) < ((rd_L3 y167 (ji16)).length : Int) then (ligatureref31_Lengths.l2 k3 l0 l1 (y167.set (x7_2 : Int).toNat ((rd_L3 y167 x7_2).set (x8_3 : Int).toNat (mx (rd (rd_L3 y167 x7_2) x8_3) (wrap64 ((rd (rd_L3 y167 (ji16)) (ji21)) + 1))))) x7_2 (wrap64 (x8_3 - 1))) else (none)) else (none)) else (ligatureref31_Lengths.l2 k3 l0 l1 y167 x7_2 (wrap64 (x8_3 - 1)))) else (none)) else (none))) else (none)) = some r := by first | (rw [hji24] at H; exact H) | (simp only [hji24] at H ⊢; exact H)
                                    have hji24_ : (if (rd (rd_L3 x5_3 (ji16)) x8_3) < (rd (rd_L3 x5_3 x7_2) (ji21)) then (rd (rd_L3 x5_3 x7_2) (ji21)) else (rd (rd_L3 x5_3 (ji16)) x8_3)) = ji24 := hji24
                                    by_cases c25 : x8_3 < ((rd_L3 x5_3 x7_2).length : Int)
                                    · rw [if_pos c25] at H
                                      have c25b0 : decide (x8_3 < ((rd_L3 x5_3 x7_2).length : Int)) = true := decide_eq_true c25
                                      clear c25
                                      obtain ⟨y165, hy165⟩ : ∃ y_ : List Int, y_ = ((rd_L3 x5_3 x7_2).set (x8_3 : Int).toNat (ji24)) := ⟨_, rfl⟩
                                      replace H : ((some (x5_3.set (x7_2 : Int).toNat y165 : List (List Int))).bind fun y167 => (if x7_2 < (l0.length : Int) then (if x8_3 < (l1.length : Int) then (if (rd l0 x7_2) = (rd l1 x8_3) then (if x8_3 < ((rd_L3 y167 x7_2).length : Int) then (if (ji21) < ((rd_L3 y167 (ji16)).length : Int) then (ligatureref31_Lengths.l2 k3 l0 l1 (y167.set (x7_2 : Int).toNat ((rd_L3 y167 x7_2).set (x8_3 : Int).toNat (mx (rd (rd_L3 y167 x7_2) x8_3) (wrap64 ((rd (rd_L3 y167 (ji16)) (ji21)) + 1))))) x7_2 (wrap64 (x8_3 - 1))) else (none)) else (none)) else (ligatureref31_Lengths.l2 k3 l0 l1 y167 x7_2 (wrap64 (x8_3 - 1)))) else (none)) else (none))) = some r := by first | (rw [hy165]; with_reducible exact H) | (have H2_ := (Option.bind_some _ _).symm.trans H; rw [hy165]; with_reducible exact H2_) | (have H2_ := (Option.bind_some _ _).symm.trans H; with_reducible exact H2_) | with_reducible exact H | (rw [hy165]; exact H) | exact H
                                      have Ny165 := Aside0.mk hy165
                                      clear hy165
                                      obtain ⟨y167, hy167⟩ : ∃ y_ : List (List Int), y_ = (x5_3.set (x7_2 : Int).toNat y165) := ⟨_, rfl⟩
                                      replace H : (if x7_2 < (l0.length : Int) then (if x8_3 < (l1.length : Int) then (if (rd l0 x7_2) = (rd l1 x8_3) then (if x8_3 < ((rd_L3 y167 x7_2).length : Int) then (if (ji21) < ((rd_L3 y167 (ji16)).length : Int) then (ligatureref31_Lengths.l2 k3 l0 l1 (y167.set (x7_2 : Int).toNat ((rd_L3 y167 x7_2).set (x8_3 : Int).toNat (mx (rd (rd_L3 y167 x7_2) x8_3) (wrap64 ((rd (rd_L3 y167 (ji16)) (ji21)) + 1))))) x7_2 (wrap64 (x8_3 - 1))) else (none)) else (none)) else (ligatureref31_Lengths.l2 k3 l0 l1 y167 x7_2 (wrap64 (x8_3 - 1)))) else (none)) else (none)) = some r := by first | (rw [hy167]; with_reducible exact H) | (have H2_ := (Option.bind_some _ _).symm.trans H; rw [hy167]; with_reducible exact H2_) | (have H2_ := (Option.bind_some _ _).symm.trans H; with_reducible exact H2_) | with_reducible exact H | (rw [hy167]; exact H) | exact H
                                      have Ny167 := Aside0.mk hy167
                                      clear hy167
                                      by_cases c27 : x7_2 < (l0.length : Int)
                                      · rw [if_pos c27] at H
                                        have c27b0 : decide (x7_2 < (l0.length : Int)) = true := decide_eq_true c27
                                        clear c27
                                        by_cases c28 : x8_3 < (l1.length : Int)
                                        · rw [if_pos c28] at H
                                          have c28b0 : decide (x8_3 < (l1.length : Int)) = true := decide_eq_true c28
                                          clear c28
                                          by_cases c29 : (rd l0 x7_2) = (rd l1 x8_3)
                                          · rw [if_pos c29] at H
                                            have c29b0 : ((rd l0 x7_2) == (rd l1 x8_3)) = true := beq_iff_eq.mpr c29
                                            have c29b1 : ((rd l0 x7_2) != (rd l1 x8_3)) = false := bne_eq_false_iff_eq.mpr c29
                                            clear c29
                                            by_cases c30 : x8_3 < ((rd_L3 y167 x7_2).length : Int)
                                            · rw [if_pos c30] at H
                                              have c30b0 : decide (x8_3 < ((rd_L3 y167 x7_2).length : Int)) = true := decide_eq_true c30
                                              clear c30
                                              by_cases c31 : (ji21) < ((rd_L3 y167 (ji16)).length : Int)
                                              · rw [if_pos c31] at H
                                                have c31b0 : decide ((ji21) < ((rd_L3 y167 (ji16)).length : Int)) = true := decide_eq_true c31
                                                clear c31
                                                obtain ⟨ji32, hji32⟩ : ∃ j_ : Int, (mx (rd (rd_L3 y167 x7_2) x8_3) (wrap64 ((rd (rd_L3 y167 (ji16)) (ji21)) + 1))) = j_ := ⟨_, rfl⟩
                                                replace H : (ligatureref31_Lengths.l2 k3 l0 l1 (y167.set (x7_2 : Int).toNat ((rd_L3 y167 x7_2).set (x8_3 : Int).toNat (ji32))) x7_2 (wrap64 (x8_3 - 1))) = some r := by first | (rw [hji32] at H; exact H) | (simp only [hji32] at H ⊢; exact H)
                                                have hji32_ : (if (rd (rd_L3 y167 x7_2) x8_3) < (wrap64 ((rd (rd_L3 y167 (ji16)) (ji21)) + 1)) then (wrap64 ((rd (rd_L3 y167 (ji16)) (ji21)) + 1)) else (rd (rd_L3 y167 x7_2) x8_3)) = ji32 := hji32
                                                obtain ⟨y175, hy175⟩ : ∃ y_ : List Int, y_ = ((rd_L3 y167 x7_2).set (x8_3 : Int).toNat (ji32)) := ⟨_, rfl⟩
                                                replace H : (ligatureref31_Lengths.l2 k3 l0 l1 (y167.set (x7_2 : Int).toNat y175) x7_2 (wrap64 (x8_3 - 1))) = some r := by first | (rw [hy175]; with_reducible exact H) | (have H2_ := (Option.bind_some _ _).symm.trans H; rw [hy175]; with_reducible exact H2_) | (have H2_ := (Option.bind_some _ _).symm.trans H; with_reducible exact H2_) | with_reducible exact H | (rw [hy175]; exact H) | exact H
                                                have Ny175 := Aside0.mk hy175
                                                clear hy175
                                                obtain ⟨y177, hy177⟩ : ∃ y_ : List (List Int), y_ = (y167.set (x7_2 : Int).toNat y175) := ⟨_, rfl⟩
                                                replace H : (ligatureref31_Lengths.l2 k3 l0 l1 y177 x7_2 (wrap64 (x8_3 - 1))) = some r := by first | (rw [hy177]; with_reducible exact H) | (have H2_ := (Option.bind_some _ _).symm.trans H; rw [hy177]; with_reducible exact H2_) | (have H2_ := (Option.bind_some _ _).symm.trans H; with_reducible exact H2_) | with_reducible exact H | (rw [hy177]; exact H) | exact H
                                                have Ny177 := Aside0.mk hy177
                                                clear hy177
                                                have H' := Aside0.mk H
                                                clear H
                                                try go_wp2
                                                have n0_ := Aside0.mk (Kd.S_drew HO_5.out)
                                                have n1_ := Aside0.mk (below_drew1 HB.out)
                                                clear HO_5
                                                clear HB
                                                have HO_5 := n0_
                                                have HB := n1_
                                                clear n0_ n1_
                                                obtain ⟨Ao35, co35, eo35⟩ := Kd.S_slice HO_5.out
                                                (first | subst eo35 | (injection eo35 with f1_ f2_ f3_; have f4_ := f1_.symm; have f5_ := f3_.symm; clear f1_ f2_ f3_; subst f4_; subst f5_))
                                                have p160 : 0 ≤ (x7_2 : Int) := of_decide_eq_true (by first | (with_reducible assumption) | assumption)
                                                have q160 : x7_2 < (x5_3.length : Int) := of_decide_eq_true (by first | (with_reducible assumption) | assumption)
                                                obtain ⟨ad160, A160_0, c160_0, e160, hx160_0, hl160_0, hi160_0⟩ := at_L3 (Kd.S_reads' HO_5.out).2.2 x7_2 p160 q160
                                                cases e160
                                                obtain ⟨ce160, hce160, hMe160, hcc160⟩ := Kd.S_get HO_5.out [] x7_2 p160 (by first | exact q160 | exact of_decide_eq_true (by first | (with_reducible assumption) | assumption) | (have e_ := (Kd.S_reads' HO_5.out).1; omega))
                                                obtain ⟨ve160_0, rfl, ge160_0⟩ := hMe160
                                                have hv160_0 := hcc160 0 _ rfl
                                                rw [Nat.add_zero, show ((Kd.slice 3 (Kd.int .i64))).sz = 1 from rfl, Nat.mul_one] at hv160_0
                                                replace hv160_0 := Option.some.inj (hv160_0.symm.trans hx160_0)
                                                rw [hv160_0] at ge160_0
                                                have HL160_0 := Aside0.mk (show Kd.R (Kd.int .i64) 3 _ _ _ _ (rd_L3 x5_3 x7_2) from ge160_0)
                                                clear hv160_0 ge160_0
                                                have HX160_0 := Aside0.mk hx160_0
                                                clear hcc160 hce160
                                                have HR160_0 := Aside0.mk hi160_0
                                                have HC160_0 := Aside0.mk hl160_0
                                                clear hi160_0 hl160_0
                                                replace p160 := eq_true p160
                                                replace q160 := eq_true q160
                                                have p161 : 0 ≤ ((ji16) : Int) := of_decide_eq_true (by first | (with_reducible assumption) | assumption)
                                                have q161 : (ji16) < (x5_3.length : Int) := of_decide_eq_true (by first | (with_reducible assumption) | assumption)
                                                obtain ⟨ad161, A161_0, c161_0, e161, hx161_0, hl161_0, hi161_0⟩ := at_L3 (Kd.S_reads' HO_5.out).2.2 (ji16) p161 q161
                                                obtain rfl : ad160 = ad161 := (by injection e161)
                                                obtain ⟨ce161, hce161, hMe161, hcc161⟩ := Kd.S_get HO_5.out [] (ji16) p161 (by first | exact q161 | exact of_decide_eq_true (by first | (with_reducible assumption) | assumption) | (have e_ := (Kd.S_reads' HO_5.out).1; omega))
                                                obtain ⟨ve161_0, rfl, ge161_0⟩ := hMe161
                                                have hv161_0 := hcc161 0 _ rfl
                                                rw [Nat.add_zero, show ((Kd.slice 3 (Kd.int .i64))).sz = 1 from rfl, Nat.mul_one] at hv161_0
                                                replace hv161_0 := Option.some.inj (hv161_0.symm.trans hx161_0)
                                                rw [hv161_0] at ge161_0
                                                have HL161_0 := Aside0.mk (show Kd.R (Kd.int .i64) 3 _ _ _ _ (rd_L3 x5_3 (ji16)) from ge161_0)
                                                clear hv161_0 ge161_0
                                                have HX161_0 := Aside0.mk hx161_0
                                                clear hcc161 hce161
                                                have HR161_0 := Aside0.mk hi161_0
                                                have HC161_0 := Aside0.mk hl161_0
                                                clear hi161_0 hl161_0
                                                replace p161 := eq_true p161
                                                replace q161 := eq_true q161
                                                have p162 : 0 ≤ (x8_3 : Int) := of_decide_eq_true (by first | (with_reducible assumption) | assumption)
                                                have q162 : x8_3 < ((rd_L3 x5_3 (ji16)).length : Int) := of_decide_eq_true (by first | (with_reducible assumption) | assumption)
                                                obtain ⟨ad162, e162, hx162_0⟩ := Kd.at_int (by repeat (first | (with_reducible exact HR161_0.out) | (with_reducible refine Kd.C_alloc ?_ _) | (with_reducible refine Kd.C_drewN ?_ _) | (with_reducible refine Kd.C_drew ?_) | exact HR161_0.out)) x8_3 p162 q162
                                                cases e162
                                                replace p162 := eq_true p162
                                                replace q162 := eq_true q162
                                                have p163 : 0 ≤ (x7_2 : Int) := of_decide_eq_true (by first | (with_reducible assumption) | assumption)
                                                have q163 : x7_2 < (x5_3.length : Int) := of_decide_eq_true (by first | (with_reducible assumption) | assumption)
                                                obtain ⟨ad163, A163_0, c163_0, e163, hx163_0, hl163_0, hi163_0⟩ := at_L3 (Kd.S_reads' HO_5.out).2.2 x7_2 p163 q163
                                                obtain rfl : ad160 = ad163 := (by injection e163)
                                                obtain ⟨ce163, hce163, hMe163, hcc163⟩ := Kd.S_get HO_5.out [] x7_2 p163 (by first | exact q163 | exact of_decide_eq_true (by first | (with_reducible assumption) | assumption) | (have e_ := (Kd.S_reads' HO_5.out).1; omega))
                                                obtain ⟨ve163_0, rfl, ge163_0⟩ := hMe163
                                                have hv163_0 := hcc163 0 _ rfl
                                                rw [Nat.add_zero, show ((Kd.slice 3 (Kd.int .i64))).sz = 1 from rfl, Nat.mul_one] at hv163_0
                                                replace hv163_0 := Option.some.inj (hv163_0.symm.trans hx163_0)
                                                rw [hv163_0] at ge163_0
                                                have HL163_0 := Aside0.mk (show Kd.R (Kd.int .i64) 3 _ _ _ _ (rd_L3 x5_3 x7_2) from ge163_0)
                                                clear hv163_0 ge163_0
                                                have HX163_0 := Aside0.mk hx163_0
                                                clear hcc163 hce163
                                                have HR163_0 := Aside0.mk hi163_0
                                                have HC163_0 := Aside0.mk hl163_0
                                                clear hi163_0 hl163_0
                                                replace p163 := eq_true p163
                                                replace q163 := eq_true q163
                                                have ea_ := Option.some.inj (hx160_0.symm.trans hx163_0)
                                                injection ea_ with ea_ en_ ec_
                                                subst ea_
                                                subst ec_
                                                clear en_
                                                have p164 : 0 ≤ ((ji21) : Int) := of_decide_eq_true (by first | (with_reducible assumption) | assumption)
                                                have q164 : (ji21) < ((rd_L3 x5_3 x7_2).length : Int) := of_decide_eq_true (by first | (with_reducible assumption) | assumption)
                                                obtain ⟨ad164, e164, hx164_0⟩ := Kd.at_int (by repeat (first | (with_reducible exact HR163_0.out) | (with_reducible refine Kd.C_alloc ?_ _) | (with_reducible refine Kd.C_drewN ?_ _) | (with_reducible refine Kd.C_drew ?_) | exact HR163_0.out)) (ji21) p164 q164
                                                cases e164
                                                replace p164 := eq_true p164
                                                replace q164 := eq_true q164
                                                have p26 : 0 ≤ (x8_3 : Int) := of_decide_eq_true (by first | (with_reducible assumption) | assumption)
                                                have q26 : (x8_3 : Int) < (((rd_L3 x5_3 x7_2).length : Int) : Int) := of_decide_eq_true (by first | (with_reducible assumption) | assumption)
                                                obtain ⟨go26, co26, eo26, gb26, gl26, cl26, HG26⟩ := Kd.R_form HL160_0.out (by omega)
                                                (first | cases eo26 | (injection eo26 with ea_ en_ ec_; (first | subst ea_ | (injection ea_ with ea_; subst ea_)); subst ec_; clear en_))
                                                have GB26 := Aside0.mk gb26
                                                have GG26 := Aside0.mk HG26
                                                clear gb26 gl26 HG26
                                                (first | simp only [add_plain] at hx164_0 | skip)
                                                obtain ⟨hx26_0, hf26_0⟩ := Kd.R_celln 0 HL160_0.out (x8_3 : Int) p26 q26
                                                replace p26 := eq_true p26
                                                replace q26 := eq_true q26
                                                have hq36 : (x7_2 : Int) < (x5_3.length : Int) := (by have h_ : (x7_2 : Int) < ((x5_3.length : Int) : Int) := of_decide_eq_true (by first | (with_reducible assumption) | assumption); first | exact h_ | (have e_ := (Kd.S_reads' HO_5.out).1; omega) | simpa only [List.length_set, List.length_set] using h_)
                                                obtain ⟨oki36, ce36, hcl36, hM36, hcc36, hok36, hbk36⟩ := Kd.S_borrow HO_5.out [] (x7_2 : Int) (of_decide_eq_true (by first | (with_reducible assumption) | assumption)) hq36
                                                obtain ⟨ve36_0, rfl, ge36_0⟩ := hM36
                                                have hv36 := hcc36 0 _ rfl
                                                rw [Nat.add_zero, show ((Kd.slice 3 (Kd.int .i64))).sz = 1 from rfl, Nat.mul_one] at hv36
                                                replace hv36 := Option.some.inj (hv36.symm.trans HX160_0.out)
                                                subst hv36
                                                clear hcc36 hcl36
                                                replace ge36_0 := (show Kd.R (Kd.int .i64) 3 _ _ _ _ (rd_L3 x5_3 x7_2) from ge36_0)
                                                have HP36 := Kd.R_putg ge36_0 (x8_3 : Int) ji24
                                                rw [← Ny165.out] at HP36
                                                have HS36 := hbk36 HP36.2 (fun k_ e_ => by injection e_ with e_; subst e_; exact ge36_0.1 _ rfl) (x' := y165) (Kd.M_row HP36.1)
                                                rw [← Ny167.out] at HS36
                                                have HQ36 := Aside0.mk HS36
                                                clear HP36 HS36 hbk36 hok36
                                                refine start_ (n := 24) (S := fun w' => w'.cell? (ad160.add (x7_2).toNat) = some (.slice (some (⟨go26, 0, none⟩ : Addr)) (rd_L3 x5_3 x7_2).length c160_0) ∧ w'.cell? (ad160.add ((ji16)).toNat) = some (.slice (some ad162) (rd_L3 x5_3 (ji16)).length c161_0) ∧ w'.cell? (ad162.add (x8_3).toNat) = some (.int .i64 (rd (rd_L3 x5_3 (ji16)) x8_3)) ∧ w'.cell? (ad160.add (x7_2).toNat) = some (.slice (some (⟨go26, 0, none⟩ : Addr)) (rd_L3 x5_3 x7_2).length c160_0) ∧ w'.cell? ⟨go26, ((ji21)).toNat, none⟩ = some (.int .i64 (rd (rd_L3 x5_3 x7_2) (ji21)))) (ds := [23]) #[false, false, false, false, false, false, false, false, false, false, false, false, false, false, false, false, false, false, false, false, false, false, false, false] (by kernel_rfl) rfl rfl ⟨hx160_0, hx161_0, hx162_0, hx163_0, hx164_0⟩ (fun hHeld => ?_); refine with_tabW ligatureref31_Lengths.tab12 ligatureref31_Lengths.bits12 (fun HT_ HW_ => ?_)
                                                generalize wr.drew = w34 at HO_5 HB GG26 HL160_0 HL161_0 HL163_0 HQ36 HR160_0 HR161_0 HR163_0 HX160_0 HX161_0 HX163_0 hf26_0 hx160_0 hx161_0 hx162_0 hx163_0 hx164_0 hx26_0 hHeld ⊢
                                                refine pure_ (i := 0) (N := some 36) (v := ?_) (a' := ?_) #[true, false, false, false, false, false, false, false, false, false, false, false, false, false, false, false, false, false, false, false, false, false, false, false] rfl rfl (any_of HT_.out (by kernel_rfl)) (fun _ _ _ h => h) (Or.inl ⟨by rfl, ?_⟩) ?_ ?_
                                                rotate_left
                                                · intro w'
                                                  go_simp
                                                  with_reducible rfl
                                                rotate_left
                                                · simp only [Act.put, List.setIfInBounds_toArray, List.set_cons_zero, List.set_cons_succ, i64_w, i32_w]
                                                  rfl
                                                refine pure_ (i := 1) (N := some 37) (v := ?_) (a' := ?_) #[true, true, false, false, false, false, false, false, false, false, false, false, false, false, false, false, false, false, false, false, false, false, false, false] rfl rfl (any_of HT_.out (by kernel_rfl)) (fun _ _ _ h => h) (Or.inl ⟨by rfl, ?_⟩) ?_ ?_
                                                rotate_left
                                                · intro w'
                                                  go_simp
                                                  with_reducible rfl
                                                rotate_left
                                                · simp only [Act.put, List.setIfInBounds_toArray, List.set_cons_zero, List.set_cons_succ, i64_w, i32_w]
                                                  rfl
                                                refine pure_ (i := 2) (N := some 38) (v := ?_) (a' := ?_) #[true, true, true, false, false, false, false, false, false, false, false, false, false, false, false, false, false, false, false, false, false, false, false, false] rfl rfl (any_of HT_.out (by kernel_rfl)) (fun _ _ _ h => h) (Or.inl ⟨by rfl, ?_⟩) ?_ ?_
                                                rotate_left
                                                · intro w'
                                                  go_simp
                                                  with_reducible rfl
                                                rotate_left
                                                · simp only [Act.put, List.setIfInBounds_toArray, List.set_cons_zero, List.set_cons_succ, i64_w, i32_w]
                                                  rfl
                                                refine pure_ (i := 4) (N := some 40) (v := ?_) (a' := ?_) #[true, true, true, false, true, false, false, false, false, false, false, false, false, false, false, false, false, false, false, false, false, false, false, false] rfl rfl (any_of HT_.out (by kernel_rfl)) (fun _ _ _ h => h) (Or.inl ⟨by rfl, ?_⟩) ?_ ?_
                                                rotate_left
                                                · intro w'
                                                  go_simp
                                                  with_reducible rfl
                                                rotate_left
                                                · simp only [Act.put, List.setIfInBounds_toArray, List.set_cons_zero, List.set_cons_succ, i64_w, i32_w]
                                                  rfl
                                                refine pure_ (i := 5) (N := some 41) (v := ?_) (a' := ?_) #[true, true, true, false, true, true, false, false, false, false, false, false, false, false, false, false, false, false, false, false, false, false, false, false] rfl rfl (any_of HT_.out (by kernel_rfl)) (fun _ _ _ h => h) (Or.inl ⟨by rfl, ?_⟩) ?_ ?_
                                                rotate_left
                                                · intro w'
                                                  go_simp
                                                  with_reducible rfl
                                                rotate_left
                                                · simp only [Act.put, List.setIfInBounds_toArray, List.set_cons_zero, List.set_cons_succ, i64_w, i32_w]
                                                  rfl
                                                refine pure_ (i := 6) (N := some 42) (v := ?_) (a' := ?_) #[true, true, true, false, true, true, true, false, false, false, false, false, false, false, false, false, false, false, false, false, false, false, false, false] rfl rfl (any_of HT_.out (by kernel_rfl)) (fun _ _ _ h => h) (Or.inl ⟨by rfl, ?_⟩) ?_ ?_
                                                rotate_left
                                                · intro w'
                                                  go_simp
                                                  with_reducible rfl
                                                rotate_left
                                                · simp only [Act.put, List.setIfInBounds_toArray, List.set_cons_zero, List.set_cons_succ, i64_w, i32_w]
                                                  rfl
                                                refine pure_ (i := 7) (N := some 43) (v := ?_) (a' := ?_) #[true, true, true, false, true, true, true, true, false, false, false, false, false, false, false, false, false, false, false, false, false, false, false, false] rfl rfl (any_of HT_.out (by kernel_rfl)) (fun _ _ _ h => h) (Or.inl ⟨by rfl, ?_⟩) ?_ ?_
                                                rotate_left
                                                · intro w'
                                                  go_simp
                                                  with_reducible rfl
                                                rotate_left
                                                · simp only [Act.put, List.setIfInBounds_toArray, List.set_cons_zero, List.set_cons_succ, i64_w, i32_w]
                                                  rfl
                                                refine pure_ (i := 8) (N := some 44) (v := ?_) (a' := ?_) #[true, true, true, false, true, true, true, true, true, false, false, false, false, false, false, false, false, false, false, false, false, false, false, false] rfl rfl (any_of HT_.out (by kernel_rfl)) (fun _ _ _ h => h) (Or.inl ⟨by rfl, ?_⟩) ?_ ?_
                                                rotate_left
                                                · intro w'
                                                  go_simp
                                                  with_reducible rfl
                                                rotate_left
                                                · simp only [Act.put, List.setIfInBounds_toArray, List.set_cons_zero, List.set_cons_succ, i64_w, i32_w]
                                                  rfl
                                                refine pure_ (i := 10) (N := some 46) (v := ?_) (a' := ?_) #[true, true, true, false, true, true, true, true, true, false, true, false, false, false, false, false, false, false, false, false, false, false, false, false] rfl rfl (any_of HT_.out (by kernel_rfl)) (fun _ _ _ h => h) (Or.inl ⟨by rfl, ?_⟩) ?_ ?_
                                                rotate_left
                                                · intro w'
                                                  go_simp
                                                  with_reducible rfl
                                                rotate_left
                                                · simp only [Act.put, List.setIfInBounds_toArray, List.set_cons_zero, List.set_cons_succ, i64_w, i32_w]
                                                  rfl
                                                refine pure_ (i := 13) (N := some 49) (v := ?_) (a' := ?_) #[true, true, true, false, true, true, true, true, true, false, true, false, false, true, false, false, false, false, false, false, false, false, false, false] rfl rfl (any_of HT_.out (by kernel_rfl)) (fun _ _ _ h => h) (Or.inl ⟨by rfl, ?_⟩) ?_ ?_
                                                rotate_left
                                                · intro w'
                                                  go_simp
                                                  with_reducible rfl
                                                rotate_left
                                                · simp only [Act.put, List.setIfInBounds_toArray, List.set_cons_zero, List.set_cons_succ, i64_w, i32_w]
                                                  rfl
                                                refine pure_ (i := 14) (N := some 50) (v := ?_) (a' := ?_) #[true, true, true, false, true, true, true, true, true, false, true, false, false, true, true, false, false, false, false, false, false, false, false, false] rfl rfl (any_of HT_.out (by kernel_rfl)) (fun _ _ _ h => h) (Or.inl ⟨by rfl, ?_⟩) ?_ ?_
                                                rotate_left
                                                · intro w'
                                                  go_simp
                                                  with_reducible rfl
                                                rotate_left
                                                · simp only [Act.put, List.setIfInBounds_toArray, List.set_cons_zero, List.set_cons_succ, i64_w, i32_w]
                                                  rfl
                                                refine pure_ (i := 15) (N := some 51) (v := ?_) (a' := ?_) #[true, true, true, false, true, true, true, true, true, false, true, false, false, true, true, true, false, false, false, false, false, false, false, false] rfl rfl (any_of HT_.out (by kernel_rfl)) (fun _ _ _ h => h) (Or.inl ⟨by rfl, ?_⟩) ?_ ?_
                                                rotate_left
                                                · intro w'
                                                  go_simp
                                                  with_reducible rfl
                                                rotate_left
                                                · simp only [Act.put, List.setIfInBounds_toArray, List.set_cons_zero, List.set_cons_succ, i64_w, i32_w]
                                                  rfl
                                                refine pure_ (i := 17) (N := some 53) (v := ?_) (a' := ?_) #[true, true, true, false, true, true, true, true, true, false, true, false, false, true, true, true, false, true, false, false, false, false, false, false] rfl rfl (any_of HT_.out (by kernel_rfl)) (fun _ _ _ h => h) (Or.inl ⟨by rfl, ?_⟩) ?_ ?_
                                                rotate_left
                                                · intro w'
                                                  go_simp
                                                  with_reducible rfl
                                                rotate_left
                                                · simp only [Act.put, List.setIfInBounds_toArray, List.set_cons_zero, List.set_cons_succ, i64_w, i32_w]
                                                  rfl
                                                refine pure_ (i := 18) (N := some 54) (v := ?_) (a' := ?_) #[true, true, true, false, true, true, true, true, true, false, true, false, false, true, true, true, false, true, true, false, false, false, false, false] rfl rfl (any_of HT_.out (by kernel_rfl)) (fun _ _ _ h => h) (Or.inl ⟨by rfl, ?_⟩) ?_ ?_
                                                rotate_left
                                                · intro w'
                                                  go_simp
                                                  with_reducible rfl
                                                rotate_left
                                                · simp only [Act.put, List.setIfInBounds_toArray, List.set_cons_zero, List.set_cons_succ, i64_w, i32_w]
                                                  rfl
                                                refine take_ (i := 3) (N := some 39) (v := ?_) (a' := ?_) #[true, true, true, true, true, true, true, true, true, false, true, false, false, true, true, true, false, true, true, false, false, false, false, false] rfl rfl (take_ofW HT_.out HW_.out (by kernel_rfl)) (fun _ _ _ h => h) (Or.inl ⟨by rfl, ?_⟩) hHeld ?_ ?_
                                                rotate_left
                                                · rintro w' ⟨s0, s1, s2, s3, s4⟩
                                                  go_simp
                                                  with_reducible rfl
                                                rotate_left
                                                · simp only [Act.put, List.setIfInBounds_toArray, List.set_cons_zero, List.set_cons_succ, i64_w, i32_w]
                                                  rfl
                                                refine take_ (i := 9) (N := some 45) (v := ?_) (a' := ?_) #[true, true, true, true, true, true, true, true, true, true, true, false, false, true, true, true, false, true, true, false, false, false, false, false] rfl rfl (take_ofW HT_.out HW_.out (by kernel_rfl)) (fun _ _ _ h => h) (Or.inl ⟨by rfl, ?_⟩) hHeld ?_ ?_
                                                rotate_left
                                                · rintro w' ⟨s0, s1, s2, s3, s4⟩
                                                  go_simp
                                                  with_reducible rfl
                                                rotate_left
                                                · simp only [Act.put, List.setIfInBounds_toArray, List.set_cons_zero, List.set_cons_succ, i64_w, i32_w]
                                                  rfl
                                                refine pure_ (i := 11) (N := some 47) (v := ?_) (a' := ?_) #[true, true, true, true, true, true, true, true, true, true, true, true, false, true, true, true, false, true, true, false, false, false, false, false] rfl rfl (any_of HT_.out (by kernel_rfl)) (fun _ _ _ h => h) (Or.inl ⟨by rfl, ?_⟩) ?_ ?_
                                                rotate_left
                                                · intro w'
                                                  go_simp
                                                  with_reducible rfl
                                                rotate_left
                                                · simp only [Act.put, List.setIfInBounds_toArray, List.set_cons_zero, List.set_cons_succ, i64_w, i32_w]
                                                  rfl
                                                refine take_ (i := 12) (N := some 48) (v := ?_) (a' := ?_) #[true, true, true, true, true, true, true, true, true, true, true, true, true, true, true, true, false, true, true, false, false, false, false, false] rfl rfl (take_ofW HT_.out HW_.out (by kernel_rfl)) (fun _ _ _ h => h) (Or.inl ⟨by rfl, ?_⟩) hHeld ?_ ?_
                                                rotate_left
                                                · rintro w' ⟨s0, s1, s2, s3, s4⟩
                                                  go_simp
                                                  with_reducible rfl
                                                rotate_left
                                                · simp only [Act.put, List.setIfInBounds_toArray, List.set_cons_zero, List.set_cons_succ, i64_w, i32_w]
                                                  rfl
                                                refine take_ (i := 16) (N := some 52) (v := ?_) (a' := ?_) #[true, true, true, true, true, true, true, true, true, true, true, true, true, true, true, true, true, true, true, false, false, false, false, false] rfl rfl (take_ofW HT_.out HW_.out (by kernel_rfl)) (fun _ _ _ h => h) (Or.inl ⟨by rfl, ?_⟩) hHeld ?_ ?_
                                                rotate_left
                                                · rintro w' ⟨s0, s1, s2, s3, s4⟩
                                                  go_simp
                                                  with_reducible rfl
                                                rotate_left
                                                · simp only [Act.put, List.setIfInBounds_toArray, List.set_cons_zero, List.set_cons_succ, i64_w, i32_w]
                                                  rfl
                                                refine pure_ (i := 19) (N := some 55) (v := ?_) (a' := ?_) #[true, true, true, true, true, true, true, true, true, true, true, true, true, true, true, true, true, true, true, true, false, false, false, false] rfl rfl (any_of HT_.out (by kernel_rfl)) (fun _ _ _ h => h) (Or.inl ⟨by rfl, ?_⟩) ?_ ?_
                                                rotate_left
                                                · intro w'
                                                  go_simp
                                                  with_reducible rfl
                                                rotate_left
                                                · simp only [Act.put, List.setIfInBounds_toArray, List.set_cons_zero, List.set_cons_succ, i64_w, i32_w]
                                                  rfl
                                                refine take_ (i := 20) (N := some 56) (v := ?_) (a' := ?_) #[true, true, true, true, true, true, true, true, true, true, true, true, true, true, true, true, true, true, true, true, true, false, false, false] rfl rfl (take_ofW HT_.out HW_.out (by kernel_rfl)) (fun _ _ _ h => h) (Or.inl ⟨by rfl, ?_⟩) hHeld ?_ ?_
                                                rotate_left
                                                · rintro w' ⟨s0, s1, s2, s3, s4⟩
                                                  go_simp
                                                  with_reducible rfl
                                                rotate_left
                                                · simp only [Act.put, List.setIfInBounds_toArray, List.set_cons_zero, List.set_cons_succ, i64_w, i32_w]
                                                  rfl
                                                refine pure_ (i := 21) (N := some 57) (v := ?_) (a' := ?_) #[true, true, true, true, true, true, true, true, true, true, true, true, true, true, true, true, true, true, true, true, true, true, false, false] rfl rfl (any_of HT_.out (by kernel_rfl)) (fun _ _ _ h => h) (Or.inl ⟨by rfl, ?_⟩) ?_ ?_
                                                rotate_left
                                                · intro w'
                                                  go_simp
                                                  with_reducible rfl
                                                rotate_left
                                                · simp only [Act.put, List.setIfInBounds_toArray, List.set_cons_zero, List.set_cons_succ, i64_w, i32_w]
                                                  rfl
                                                refine pure_ (i := 22) (N := some 58) (v := ?_) (a' := ?_) #[true, true, true, true, true, true, true, true, true, true, true, true, true, true, true, true, true, true, true, true, true, true, true, false] rfl rfl (any_of HT_.out (by kernel_rfl)) (fun _ _ _ h => h) (Or.inl ⟨by rfl, ?_⟩) ?_ ?_
                                                rotate_left
                                                · intro w'
                                                  go_simp
                                                  with_reducible rfl
                                                rotate_left
                                                · simp only [Act.put, List.setIfInBounds_toArray, List.set_cons_zero, List.set_cons_succ, i64_w, i32_w]
                                                  rfl
                                                refine last_ (i := 23) (N := none) #[true, true, true, true, true, true, true, true, true, true, true, true, true, true, true, true, true, true, true, true, true, true, true, true] rfl rfl (one_of HT_.out (by kernel_rfl)) (by decide) (fun K hK => ?_)
                                                refine skip_ (w1 := ?_) (by rfl) rfl ?_ ?_
                                                rotate_left
                                                · go_simp
                                                  rfl
                                                refine hK.out _ _ ?_
                                                clear hK K
                                                refine done_ (done_of HT_.out (by kernel_rfl)) ?_
                                                try go_wp2
                                                have n0_ : Aside0 (Kd.S (Kd.slice 3 (Kd.int .i64)) 33 (w34.setCell ⟨go26, (x8_3 : Int).toNat, none⟩ (.int .i64 ji24)) w.heap.size (fun _ => True) (.slice (some ad160) x5_3.length co35) y167) := ⟨by (with_reducible repeat (first | apply Kd.S_alloc | apply Kd.S_drewN | apply Kd.S_drew)); exact HQ36.out⟩
                                                have n1_ : Aside0 (Below w.heap.size w (w34.setCell ⟨go26, (x8_3 : Int).toNat, none⟩ (.int .i64 ji24))) := ⟨by repeat (first | (with_reducible first | exact HB.out | apply below_alloc | apply pw_below_drewN | apply below_drew1 | refine below_set ?_ GB26.out) | exact HB.out)⟩
                                                (try clear HO_5)
                                                (try clear HB)
                                                generalize (w34.setCell ⟨go26, (x8_3 : Int).toNat, none⟩ (.int .i64 ji24)) = w38 at n0_ n1_ ⊢
                                                have HO_5 := n0_
                                                have HB := n1_
                                                clear n0_ n1_
                                                have n0_ := Aside0.mk (Kd.S_drew HO_5.out)
                                                have n1_ := Aside0.mk (below_drew1 HB.out)
                                                clear HO_5
                                                clear HB
                                                have HO_5 := n0_
                                                have HB := n1_
                                                clear n0_ n1_
                                                have p168 : 0 ≤ (x7_2 : Int) := of_decide_eq_true (by first | (with_reducible assumption) | assumption)
                                                have q168 : x7_2 < (l0.length : Int) := of_decide_eq_true (by first | (with_reducible assumption) | assumption)
                                                obtain ⟨ad168, e168, hx168_0⟩ := Kd.at_int HR0.out x7_2 p168 q168
                                                have hw168_0 := hx168_0
                                                cases e168
                                                replace hx168_0 := (HB.out.cell (World.block_lt_of_cell? w _ hx168_0)).trans hx168_0
                                                replace p168 := eq_true p168
                                                replace q168 := eq_true q168
                                                have p169 : 0 ≤ (x8_3 : Int) := of_decide_eq_true (by first | (with_reducible assumption) | assumption)
                                                have q169 : x8_3 < (l1.length : Int) := of_decide_eq_true (by first | (with_reducible assumption) | assumption)
                                                obtain ⟨ad169, e169, hx169_0⟩ := Kd.at_int HR1.out x8_3 p169 q169
                                                have hw169_0 := hx169_0
                                                cases e169
                                                replace hx169_0 := (HB.out.cell (World.block_lt_of_cell? w _ hx169_0)).trans hx169_0
                                                replace p169 := eq_true p169
                                                replace q169 := eq_true q169
                                                refine start_ (n := 9) (S := fun w' => w'.cell? (ad168.add (x7_2).toNat) = some (.int .i64 (rd l0 x7_2)) ∧ w'.cell? (ad169.add (x8_3).toNat) = some (.int .i64 (rd l1 x8_3))) (ds := []) #[false, false, false, false, false, false, false, false, false] (by kernel_rfl) rfl rfl ⟨((HB.out.cell (World.block_lt_of_cell? w _ hw168_0)).trans hw168_0), ((HB.out.cell (World.block_lt_of_cell? w _ hw169_0)).trans hw169_0)⟩ (fun hHeld => ?_); refine with_tabW ligatureref31_Lengths.tab13 ligatureref31_Lengths.bits13 (fun HT_ HW_ => ?_)
                                                generalize w38.drew = w39 at HO_5 HB HQ36 hx168_0 hx169_0 hHeld ⊢
                                                refine pure_ (i := 0) (N := some 59) (v := ?_) (a' := ?_) #[true, false, false, false, false, false, false, false, false] rfl rfl (any_of HT_.out (by kernel_rfl)) (fun _ _ _ h => h) (Or.inl ⟨by rfl, ?_⟩) ?_ ?_
                                                rotate_left
                                                · intro w'
                                                  go_simp
                                                  with_reducible rfl
                                                rotate_left
                                                · simp only [Act.put, List.setIfInBounds_toArray, List.set_cons_zero, List.set_cons_succ, i64_w, i32_w]
                                                  rfl
                                                refine pure_ (i := 1) (N := some 60) (v := ?_) (a' := ?_) #[true, true, false, false, false, false, false, false, false] rfl rfl (any_of HT_.out (by kernel_rfl)) (fun _ _ _ h => h) (Or.inl ⟨by rfl, ?_⟩) ?_ ?_
                                                rotate_left
                                                · intro w'
                                                  go_simp
                                                  with_reducible rfl
                                                rotate_left
                                                · simp only [Act.put, List.setIfInBounds_toArray, List.set_cons_zero, List.set_cons_succ, i64_w, i32_w]
                                                  rfl
                                                refine pure_ (i := 2) (N := some 61) (v := ?_) (a' := ?_) #[true, true, true, false, false, false, false, false, false] rfl rfl (any_of HT_.out (by kernel_rfl)) (fun _ _ _ h => h) (Or.inl ⟨by rfl, ?_⟩) ?_ ?_
                                                rotate_left
                                                · intro w'
                                                  go_simp
                                                  with_reducible rfl
                                                rotate_left
                                                · simp only [Act.put, List.setIfInBounds_toArray, List.set_cons_zero, List.set_cons_succ, i64_w, i32_w]
                                                  rfl
                                                refine pure_ (i := 4) (N := some 63) (v := ?_) (a' := ?_) #[true, true, true, false, true, false, false, false, false] rfl rfl (any_of HT_.out (by kernel_rfl)) (fun _ _ _ h => h) (Or.inl ⟨by rfl, ?_⟩) ?_ ?_
                                                rotate_left
                                                · intro w'
                                                  go_simp
                                                  with_reducible rfl
                                                rotate_left
                                                · simp only [Act.put, List.setIfInBounds_toArray, List.set_cons_zero, List.set_cons_succ, i64_w, i32_w]
                                                  rfl
                                                refine pure_ (i := 5) (N := some 64) (v := ?_) (a' := ?_) #[true, true, true, false, true, true, false, false, false] rfl rfl (any_of HT_.out (by kernel_rfl)) (fun _ _ _ h => h) (Or.inl ⟨by rfl, ?_⟩) ?_ ?_
                                                rotate_left
                                                · intro w'
                                                  go_simp
                                                  with_reducible rfl
                                                rotate_left
                                                · simp only [Act.put, List.setIfInBounds_toArray, List.set_cons_zero, List.set_cons_succ, i64_w, i32_w]
                                                  rfl
                                                refine pure_ (i := 6) (N := some 65) (v := ?_) (a' := ?_) #[true, true, true, false, true, true, true, false, false] rfl rfl (any_of HT_.out (by kernel_rfl)) (fun _ _ _ h => h) (Or.inl ⟨by rfl, ?_⟩) ?_ ?_
                                                rotate_left
                                                · intro w'
                                                  go_simp
                                                  with_reducible rfl
                                                rotate_left
                                                · simp only [Act.put, List.setIfInBounds_toArray, List.set_cons_zero, List.set_cons_succ, i64_w, i32_w]
                                                  rfl
                                                refine take_ (i := 3) (N := some 62) (v := ?_) (a' := ?_) #[true, true, true, true, true, true, true, false, false] rfl rfl (take_ofW HT_.out HW_.out (by kernel_rfl)) (fun _ _ _ h => h) (Or.inl ⟨by rfl, ?_⟩) hHeld ?_ ?_
                                                rotate_left
                                                · rintro w' ⟨s0, s1⟩
                                                  go_simp
                                                  with_reducible rfl
                                                rotate_left
                                                · simp only [Act.put, List.setIfInBounds_toArray, List.set_cons_zero, List.set_cons_succ, i64_w, i32_w]
                                                  rfl
                                                refine take_ (i := 7) (N := some 66) (v := ?_) (a' := ?_) #[true, true, true, true, true, true, true, true, false] rfl rfl (take_ofW HT_.out HW_.out (by kernel_rfl)) (fun _ _ _ h => h) (Or.inl ⟨by rfl, ?_⟩) hHeld ?_ ?_
                                                rotate_left
                                                · rintro w' ⟨s0, s1⟩
                                                  go_simp
                                                  with_reducible rfl
                                                rotate_left
                                                · simp only [Act.put, List.setIfInBounds_toArray, List.set_cons_zero, List.set_cons_succ, i64_w, i32_w]
                                                  rfl
                                                refine pure_ (i := 8) (N := some 67) (v := ?_) (a' := ?_) #[true, true, true, true, true, true, true, true, true] rfl rfl (any_of HT_.out (by kernel_rfl)) (fun _ _ _ h => h) (Or.inl ⟨by rfl, ?_⟩) ?_ ?_
                                                rotate_left
                                                · intro w'
                                                  go_simp
                                                  with_reducible rfl
                                                rotate_left
                                                · simp only [Act.put, List.setIfInBounds_toArray, List.set_cons_zero, List.set_cons_succ, i64_w, i32_w]
                                                  rfl
                                                refine done_ (done_of HT_.out (by kernel_rfl)) ?_
                                                try go_wp2
                                                have n0_ := Aside0.mk (Kd.S_drew HO_5.out)
                                                have n1_ := Aside0.mk (below_drew1 HB.out)
                                                clear HO_5
                                                clear HB
                                                have HO_5 := n0_
                                                have HB := n1_
                                                clear n0_ n1_
                                                have p170 : 0 ≤ (x7_2 : Int) := of_decide_eq_true (by first | (with_reducible assumption) | assumption)
                                                have q170 : x7_2 < (y167.length : Int) := (by have h_ : (x7_2 : Int) < ((x5_3.length : Int) : Int) := of_decide_eq_true (by first | (with_reducible assumption) | assumption); first | (have e_ := (Kd.S_reads' HO_5.out).1; omega) | simpa only [Ny167.out, List.length_set] using h_)
                                                have ql170 : ((x7_2 : Int) < ((x5_3.length : Int) : Int)) = True := eq_true (of_decide_eq_true (by first | (with_reducible assumption) | assumption))
                                                obtain ⟨ad170, A170_0, c170_0, e170, hx170_0, hl170_0, hi170_0⟩ := at_L3 (Kd.S_reads' HO_5.out).2.2 x7_2 p170 q170
                                                obtain rfl : ad160 = ad170 := (by injection e170)
                                                obtain ⟨ce170, hce170, hMe170, hcc170⟩ := Kd.S_get HO_5.out [] x7_2 p170 (by first | exact q170 | exact of_decide_eq_true (by first | (with_reducible assumption) | assumption) | (have e_ := (Kd.S_reads' HO_5.out).1; omega))
                                                obtain ⟨ve170_0, rfl, ge170_0⟩ := hMe170
                                                have hv170_0 := hcc170 0 _ rfl
                                                rw [Nat.add_zero, show ((Kd.slice 3 (Kd.int .i64))).sz = 1 from rfl, Nat.mul_one] at hv170_0
                                                replace hv170_0 := Option.some.inj (hv170_0.symm.trans hx170_0)
                                                rw [hv170_0] at ge170_0
                                                have HL170_0 := Aside0.mk (show Kd.R (Kd.int .i64) 3 _ _ _ _ (rd_L3 y167 x7_2) from ge170_0)
                                                clear hv170_0 ge170_0
                                                have HX170_0 := Aside0.mk hx170_0
                                                clear hcc170 hce170
                                                have HR170_0 := Aside0.mk hi170_0
                                                have HC170_0 := Aside0.mk hl170_0
                                                clear hi170_0 hl170_0
                                                replace p170 := eq_true p170
                                                replace q170 := eq_true q170
                                                have p171 : 0 ≤ (x7_2 : Int) := of_decide_eq_true (by first | (with_reducible assumption) | assumption)
                                                have q171 : x7_2 < (y167.length : Int) := (by have h_ : (x7_2 : Int) < ((x5_3.length : Int) : Int) := of_decide_eq_true (by first | (with_reducible assumption) | assumption); first | (have e_ := (Kd.S_reads' HO_5.out).1; omega) | simpa only [Ny167.out, List.length_set] using h_)
                                                have ql171 : ((x7_2 : Int) < ((x5_3.length : Int) : Int)) = True := eq_true (of_decide_eq_true (by first | (with_reducible assumption) | assumption))
                                                obtain ⟨ad171, A171_0, c171_0, e171, hx171_0, hl171_0, hi171_0⟩ := at_L3 (Kd.S_reads' HO_5.out).2.2 x7_2 p171 q171
                                                obtain rfl : ad160 = ad171 := (by injection e171)
                                                obtain ⟨ce171, hce171, hMe171, hcc171⟩ := Kd.S_get HO_5.out [] x7_2 p171 (by first | exact q171 | exact of_decide_eq_true (by first | (with_reducible assumption) | assumption) | (have e_ := (Kd.S_reads' HO_5.out).1; omega))
                                                obtain ⟨ve171_0, rfl, ge171_0⟩ := hMe171
                                                have hv171_0 := hcc171 0 _ rfl
                                                rw [Nat.add_zero, show ((Kd.slice 3 (Kd.int .i64))).sz = 1 from rfl, Nat.mul_one] at hv171_0
                                                replace hv171_0 := Option.some.inj (hv171_0.symm.trans hx171_0)
                                                rw [hv171_0] at ge171_0
                                                have HL171_0 := Aside0.mk (show Kd.R (Kd.int .i64) 3 _ _ _ _ (rd_L3 y167 x7_2) from ge171_0)
                                                clear hv171_0 ge171_0
                                                have HX171_0 := Aside0.mk hx171_0
                                                clear hcc171 hce171
                                                have HR171_0 := Aside0.mk hi171_0
                                                have HC171_0 := Aside0.mk hl171_0
                                                clear hi171_0 hl171_0
                                                replace p171 := eq_true p171
                                                replace q171 := eq_true q171
                                                have ea_ := Option.some.inj (hx170_0.symm.trans hx171_0)
                                                injection ea_ with ea_ en_ ec_
                                                subst ea_
                                                subst ec_
                                                clear en_
                                                have p172 : 0 ≤ (x8_3 : Int) := of_decide_eq_true (by first | (with_reducible assumption) | assumption)
                                                have q172 : x8_3 < ((rd_L3 y167 x7_2).length : Int) := of_decide_eq_true (by first | (with_reducible assumption) | assumption)
                                                obtain ⟨ad172, e172, hx172_0⟩ := Kd.at_int (by repeat (first | (with_reducible exact HR171_0.out) | (with_reducible refine Kd.C_alloc ?_ _) | (with_reducible refine Kd.C_drewN ?_ _) | (with_reducible refine Kd.C_drew ?_) | exact HR171_0.out)) x8_3 p172 q172
                                                cases e172
                                                replace p172 := eq_true p172
                                                replace q172 := eq_true q172
                                                have p173 : 0 ≤ ((ji16) : Int) := of_decide_eq_true (by first | (with_reducible assumption) | assumption)
                                                have q173 : (ji16) < (y167.length : Int) := (by have h_ : ((ji16) : Int) < ((x5_3.length : Int) : Int) := of_decide_eq_true (by first | (with_reducible assumption) | assumption); first | (have e_ := (Kd.S_reads' HO_5.out).1; omega) | simpa only [Ny167.out, List.length_set] using h_)
                                                have ql173 : (((ji16) : Int) < ((x5_3.length : Int) : Int)) = True := eq_true (of_decide_eq_true (by first | (with_reducible assumption) | assumption))
                                                obtain ⟨ad173, A173_0, c173_0, e173, hx173_0, hl173_0, hi173_0⟩ := at_L3 (Kd.S_reads' HO_5.out).2.2 (ji16) p173 q173
                                                obtain rfl : ad160 = ad173 := (by injection e173)
                                                obtain ⟨ce173, hce173, hMe173, hcc173⟩ := Kd.S_get HO_5.out [] (ji16) p173 (by first | exact q173 | exact of_decide_eq_true (by first | (with_reducible assumption) | assumption) | (have e_ := (Kd.S_reads' HO_5.out).1; omega))
                                                obtain ⟨ve173_0, rfl, ge173_0⟩ := hMe173
                                                have hv173_0 := hcc173 0 _ rfl
                                                rw [Nat.add_zero, show ((Kd.slice 3 (Kd.int .i64))).sz = 1 from rfl, Nat.mul_one] at hv173_0
                                                replace hv173_0 := Option.some.inj (hv173_0.symm.trans hx173_0)
                                                rw [hv173_0] at ge173_0
                                                have HL173_0 := Aside0.mk (show Kd.R (Kd.int .i64) 3 _ _ _ _ (rd_L3 y167 (ji16)) from ge173_0)
                                                clear hv173_0 ge173_0
                                                have HX173_0 := Aside0.mk hx173_0
                                                clear hcc173 hce173
                                                have HR173_0 := Aside0.mk hi173_0
                                                have HC173_0 := Aside0.mk hl173_0
                                                clear hi173_0 hl173_0
                                                replace p173 := eq_true p173
                                                replace q173 := eq_true q173
                                                have p174 : 0 ≤ ((ji21) : Int) := of_decide_eq_true (by first | (with_reducible assumption) | assumption)
                                                have q174 : (ji21) < ((rd_L3 y167 (ji16)).length : Int) := of_decide_eq_true (by first | (with_reducible assumption) | assumption)
                                                obtain ⟨ad174, e174, hx174_0⟩ := Kd.at_int (by repeat (first | (with_reducible exact HR173_0.out) | (with_reducible refine Kd.C_alloc ?_ _) | (with_reducible refine Kd.C_drewN ?_ _) | (with_reducible refine Kd.C_drew ?_) | exact HR173_0.out)) (ji21) p174 q174
                                                cases e174
                                                replace p174 := eq_true p174
                                                replace q174 := eq_true q174
                                                have p33 : 0 ≤ (x8_3 : Int) := of_decide_eq_true (by first | (with_reducible assumption) | assumption)
                                                have q33 : (x8_3 : Int) < (((rd_L3 y167 x7_2).length : Int) : Int) := of_decide_eq_true (by first | (with_reducible assumption) | assumption)
                                                obtain ⟨go33, co33, eo33, gb33, gl33, cl33, HG33⟩ := Kd.R_form HL170_0.out (by omega)
                                                (first | cases eo33 | (injection eo33 with ea_ en_ ec_; (first | subst ea_ | (injection ea_ with ea_; subst ea_)); subst ec_; clear en_))
                                                have GB33 := Aside0.mk gb33
                                                have GG33 := Aside0.mk HG33
                                                clear gb33 gl33 HG33
                                                (first | simp only [add_plain] at hx172_0 | skip)
                                                obtain ⟨hx33_0, hf33_0⟩ := Kd.R_celln 0 HL170_0.out (x8_3 : Int) p33 q33
                                                replace p33 := eq_true p33
                                                replace q33 := eq_true q33
                                                have hq41 : (x7_2 : Int) < (y167.length : Int) := (by have h_ : (x7_2 : Int) < ((x5_3.length : Int) : Int) := of_decide_eq_true (by first | (with_reducible assumption) | assumption); first | exact h_ | (have e_ := (Kd.S_reads' HO_5.out).1; omega) | simpa only [Ny167.out, List.length_set] using h_)
                                                obtain ⟨oki41, ce41, hcl41, hM41, hcc41, hok41, hbk41⟩ := Kd.S_borrow HO_5.out [] (x7_2 : Int) (of_decide_eq_true (by first | (with_reducible assumption) | assumption)) (by have e_ := (Kd.S_reads' HO_5.out).1; omega)
                                                obtain ⟨ve41_0, rfl, ge41_0⟩ := hM41
                                                have hv41 := hcc41 0 _ rfl
                                                rw [Nat.add_zero, show ((Kd.slice 3 (Kd.int .i64))).sz = 1 from rfl, Nat.mul_one] at hv41
                                                replace hv41 := Option.some.inj (hv41.symm.trans HX170_0.out)
                                                subst hv41
                                                clear hcc41 hcl41
                                                replace ge41_0 := (show Kd.R (Kd.int .i64) 3 _ _ _ _ (rd_L3 y167 x7_2) from ge41_0)
                                                have HP41 := Kd.R_putg ge41_0 (x8_3 : Int) ji32
                                                rw [← Ny175.out] at HP41
                                                have HS41 := hbk41 HP41.2 (fun k_ e_ => by injection e_ with e_; subst e_; exact ge41_0.1 _ rfl) (x' := y175) (Kd.M_row HP41.1)
                                                rw [← Ny177.out] at HS41
                                                have HQ41 := Aside0.mk HS41
                                                clear HP41 HS41 hbk41 hok41
                                                refine start_ (n := 25) (S := fun w' => w'.cell? (ad160.add (x7_2).toNat) = some (.slice (some (⟨go33, 0, none⟩ : Addr)) (rd_L3 y167 x7_2).length c170_0) ∧ w'.cell? (ad160.add (x7_2).toNat) = some (.slice (some (⟨go33, 0, none⟩ : Addr)) (rd_L3 y167 x7_2).length c170_0) ∧ w'.cell? ⟨go33, (x8_3).toNat, none⟩ = some (.int .i64 (rd (rd_L3 y167 x7_2) x8_3)) ∧ w'.cell? (ad160.add ((ji16)).toNat) = some (.slice (some ad174) (rd_L3 y167 (ji16)).length c173_0) ∧ w'.cell? (ad174.add ((ji21)).toNat) = some (.int .i64 (rd (rd_L3 y167 (ji16)) (ji21)))) (ds := [24]) #[false, false, false, false, false, false, false, false, false, false, false, false, false, false, false, false, false, false, false, false, false, false, false, false, false] (by kernel_rfl) rfl rfl ⟨hx170_0, hx171_0, hx172_0, hx173_0, hx174_0⟩ (fun hHeld => ?_); refine with_tabW ligatureref31_Lengths.tab14 ligatureref31_Lengths.bits14 (fun HT_ HW_ => ?_)
                                                generalize w39.drew = w40 at HO_5 HB GG33 HL170_0 HL171_0 HL173_0 HQ41 HR170_0 HR171_0 HR173_0 HX170_0 HX171_0 HX173_0 hf33_0 hx170_0 hx171_0 hx172_0 hx173_0 hx174_0 hx33_0 hHeld ⊢
                                                refine pure_ (i := 0) (N := some 68) (v := ?_) (a' := ?_) #[true, false, false, false, false, false, false, false, false, false, false, false, false, false, false, false, false, false, false, false, false, false, false, false, false] rfl rfl (any_of HT_.out (by kernel_rfl)) (fun _ _ _ h => h) (Or.inl ⟨by rfl, ?_⟩) ?_ ?_
                                                rotate_left
                                                · intro w'
                                                  go_simp
                                                  with_reducible rfl
                                                rotate_left
                                                · simp only [Act.put, List.setIfInBounds_toArray, List.set_cons_zero, List.set_cons_succ, i64_w, i32_w]
                                                  rfl
                                                refine pure_ (i := 1) (N := some 69) (v := ?_) (a' := ?_) #[true, true, false, false, false, false, false, false, false, false, false, false, false, false, false, false, false, false, false, false, false, false, false, false, false] rfl rfl (any_of HT_.out (by kernel_rfl)) (fun _ _ _ h => h) (Or.inl ⟨by rfl, ?_⟩) ?_ ?_
                                                rotate_left
                                                · intro w'
                                                  go_simp
                                                  with_reducible rfl
                                                rotate_left
                                                · simp only [Act.put, List.setIfInBounds_toArray, List.set_cons_zero, List.set_cons_succ, i64_w, i32_w]
                                                  rfl
                                                refine pure_ (i := 2) (N := some 70) (v := ?_) (a' := ?_) #[true, true, true, false, false, false, false, false, false, false, false, false, false, false, false, false, false, false, false, false, false, false, false, false, false] rfl rfl (any_of HT_.out (by kernel_rfl)) (fun _ _ _ h => h) (Or.inl ⟨by rfl, ?_⟩) ?_ ?_
                                                rotate_left
                                                · intro w'
                                                  go_simp
                                                  with_reducible rfl
                                                rotate_left
                                                · simp only [Act.put, List.setIfInBounds_toArray, List.set_cons_zero, List.set_cons_succ, i64_w, i32_w]
                                                  rfl
                                                refine pure_ (i := 4) (N := some 72) (v := ?_) (a' := ?_) #[true, true, true, false, true, false, false, false, false, false, false, false, false, false, false, false, false, false, false, false, false, false, false, false, false] rfl rfl (any_of HT_.out (by kernel_rfl)) (fun _ _ _ h => h) (Or.inl ⟨by rfl, ?_⟩) ?_ ?_
                                                rotate_left
                                                · intro w'
                                                  go_simp
                                                  with_reducible rfl
                                                rotate_left
                                                · simp only [Act.put, List.setIfInBounds_toArray, List.set_cons_zero, List.set_cons_succ, i64_w, i32_w]
                                                  rfl
                                                refine pure_ (i := 5) (N := some 73) (v := ?_) (a' := ?_) #[true, true, true, false, true, true, false, false, false, false, false, false, false, false, false, false, false, false, false, false, false, false, false, false, false] rfl rfl (any_of HT_.out (by kernel_rfl)) (fun _ _ _ h => h) (Or.inl ⟨by rfl, ?_⟩) ?_ ?_
                                                rotate_left
                                                · intro w'
                                                  go_simp
                                                  with_reducible rfl
                                                rotate_left
                                                · simp only [Act.put, List.setIfInBounds_toArray, List.set_cons_zero, List.set_cons_succ, i64_w, i32_w]
                                                  rfl
                                                refine pure_ (i := 6) (N := some 74) (v := ?_) (a' := ?_) #[true, true, true, false, true, true, true, false, false, false, false, false, false, false, false, false, false, false, false, false, false, false, false, false, false] rfl rfl (any_of HT_.out (by kernel_rfl)) (fun _ _ _ h => h) (Or.inl ⟨by rfl, ?_⟩) ?_ ?_
                                                rotate_left
                                                · intro w'
                                                  go_simp
                                                  with_reducible rfl
                                                rotate_left
                                                · simp only [Act.put, List.setIfInBounds_toArray, List.set_cons_zero, List.set_cons_succ, i64_w, i32_w]
                                                  rfl
                                                refine pure_ (i := 7) (N := some 75) (v := ?_) (a' := ?_) #[true, true, true, false, true, true, true, true, false, false, false, false, false, false, false, false, false, false, false, false, false, false, false, false, false] rfl rfl (any_of HT_.out (by kernel_rfl)) (fun _ _ _ h => h) (Or.inl ⟨by rfl, ?_⟩) ?_ ?_
                                                rotate_left
                                                · intro w'
                                                  go_simp
                                                  with_reducible rfl
                                                rotate_left
                                                · simp only [Act.put, List.setIfInBounds_toArray, List.set_cons_zero, List.set_cons_succ, i64_w, i32_w]
                                                  rfl
                                                refine pure_ (i := 9) (N := some 77) (v := ?_) (a' := ?_) #[true, true, true, false, true, true, true, true, false, true, false, false, false, false, false, false, false, false, false, false, false, false, false, false, false] rfl rfl (any_of HT_.out (by kernel_rfl)) (fun _ _ _ h => h) (Or.inl ⟨by rfl, ?_⟩) ?_ ?_
                                                rotate_left
                                                · intro w'
                                                  go_simp
                                                  with_reducible rfl
                                                rotate_left
                                                · simp only [Act.put, List.setIfInBounds_toArray, List.set_cons_zero, List.set_cons_succ, i64_w, i32_w]
                                                  rfl
                                                refine pure_ (i := 12) (N := some 80) (v := ?_) (a' := ?_) #[true, true, true, false, true, true, true, true, false, true, false, false, true, false, false, false, false, false, false, false, false, false, false, false, false] rfl rfl (any_of HT_.out (by kernel_rfl)) (fun _ _ _ h => h) (Or.inl ⟨by rfl, ?_⟩) ?_ ?_
                                                rotate_left
                                                · intro w'
                                                  go_simp
                                                  with_reducible rfl
                                                rotate_left
                                                · simp only [Act.put, List.setIfInBounds_toArray, List.set_cons_zero, List.set_cons_succ, i64_w, i32_w]
                                                  rfl
                                                refine pure_ (i := 13) (N := some 81) (v := ?_) (a' := ?_) #[true, true, true, false, true, true, true, true, false, true, false, false, true, true, false, false, false, false, false, false, false, false, false, false, false] rfl rfl (any_of HT_.out (by kernel_rfl)) (fun _ _ _ h => h) (Or.inl ⟨by rfl, ?_⟩) ?_ ?_
                                                rotate_left
                                                · intro w'
                                                  go_simp
                                                  with_reducible rfl
                                                rotate_left
                                                · simp only [Act.put, List.setIfInBounds_toArray, List.set_cons_zero, List.set_cons_succ, i64_w, i32_w]
                                                  rfl
                                                refine pure_ (i := 14) (N := some 82) (v := ?_) (a' := ?_) #[true, true, true, false, true, true, true, true, false, true, false, false, true, true, true, false, false, false, false, false, false, false, false, false, false] rfl rfl (any_of HT_.out (by kernel_rfl)) (fun _ _ _ h => h) (Or.inl ⟨by rfl, ?_⟩) ?_ ?_
                                                rotate_left
                                                · intro w'
                                                  go_simp
                                                  with_reducible rfl
                                                rotate_left
                                                · simp only [Act.put, List.setIfInBounds_toArray, List.set_cons_zero, List.set_cons_succ, i64_w, i32_w]
                                                  rfl
                                                refine pure_ (i := 15) (N := some 83) (v := ?_) (a' := ?_) #[true, true, true, false, true, true, true, true, false, true, false, false, true, true, true, true, false, false, false, false, false, false, false, false, false] rfl rfl (any_of HT_.out (by kernel_rfl)) (fun _ _ _ h => h) (Or.inl ⟨by rfl, ?_⟩) ?_ ?_
                                                rotate_left
                                                · intro w'
                                                  go_simp
                                                  with_reducible rfl
                                                rotate_left
                                                · simp only [Act.put, List.setIfInBounds_toArray, List.set_cons_zero, List.set_cons_succ, i64_w, i32_w]
                                                  rfl
                                                refine pure_ (i := 17) (N := some 85) (v := ?_) (a' := ?_) #[true, true, true, false, true, true, true, true, false, true, false, false, true, true, true, true, false, true, false, false, false, false, false, false, false] rfl rfl (any_of HT_.out (by kernel_rfl)) (fun _ _ _ h => h) (Or.inl ⟨by rfl, ?_⟩) ?_ ?_
                                                rotate_left
                                                · intro w'
                                                  go_simp
                                                  with_reducible rfl
                                                rotate_left
                                                · simp only [Act.put, List.setIfInBounds_toArray, List.set_cons_zero, List.set_cons_succ, i64_w, i32_w]
                                                  rfl
                                                refine pure_ (i := 18) (N := some 86) (v := ?_) (a' := ?_) #[true, true, true, false, true, true, true, true, false, true, false, false, true, true, true, true, false, true, true, false, false, false, false, false, false] rfl rfl (any_of HT_.out (by kernel_rfl)) (fun _ _ _ h => h) (Or.inl ⟨by rfl, ?_⟩) ?_ ?_
                                                rotate_left
                                                · intro w'
                                                  go_simp
                                                  with_reducible rfl
                                                rotate_left
                                                · simp only [Act.put, List.setIfInBounds_toArray, List.set_cons_zero, List.set_cons_succ, i64_w, i32_w]
                                                  rfl
                                                refine take_ (i := 3) (N := some 71) (v := ?_) (a' := ?_) #[true, true, true, true, true, true, true, true, false, true, false, false, true, true, true, true, false, true, true, false, false, false, false, false, false] rfl rfl (take_ofW HT_.out HW_.out (by kernel_rfl)) (fun _ _ _ h => h) (Or.inl ⟨by rfl, ?_⟩) hHeld ?_ ?_
                                                rotate_left
                                                · rintro w' ⟨s0, s1, s2, s3, s4⟩
                                                  go_simp
                                                  with_reducible rfl
                                                rotate_left
                                                · simp only [Act.put, List.setIfInBounds_toArray, List.set_cons_zero, List.set_cons_succ, i64_w, i32_w]
                                                  rfl
                                                refine take_ (i := 8) (N := some 76) (v := ?_) (a' := ?_) #[true, true, true, true, true, true, true, true, true, true, false, false, true, true, true, true, false, true, true, false, false, false, false, false, false] rfl rfl (take_ofW HT_.out HW_.out (by kernel_rfl)) (fun _ _ _ h => h) (Or.inl ⟨by rfl, ?_⟩) hHeld ?_ ?_
                                                rotate_left
                                                · rintro w' ⟨s0, s1, s2, s3, s4⟩
                                                  go_simp
                                                  with_reducible rfl
                                                rotate_left
                                                · simp only [Act.put, List.setIfInBounds_toArray, List.set_cons_zero, List.set_cons_succ, i64_w, i32_w]
                                                  rfl
                                                refine pure_ (i := 10) (N := some 78) (v := ?_) (a' := ?_) #[true, true, true, true, true, true, true, true, true, true, true, false, true, true, true, true, false, true, true, false, false, false, false, false, false] rfl rfl (any_of HT_.out (by kernel_rfl)) (fun _ _ _ h => h) (Or.inl ⟨by rfl, ?_⟩) ?_ ?_
                                                rotate_left
                                                · intro w'
                                                  go_simp
                                                  with_reducible rfl
                                                rotate_left
                                                · simp only [Act.put, List.setIfInBounds_toArray, List.set_cons_zero, List.set_cons_succ, i64_w, i32_w]
                                                  rfl
                                                refine take_ (i := 11) (N := some 79) (v := ?_) (a' := ?_) #[true, true, true, true, true, true, true, true, true, true, true, true, true, true, true, true, false, true, true, false, false, false, false, false, false] rfl rfl (take_ofW HT_.out HW_.out (by kernel_rfl)) (fun _ _ _ h => h) (Or.inl ⟨by rfl, ?_⟩) hHeld ?_ ?_
                                                rotate_left
                                                · rintro w' ⟨s0, s1, s2, s3, s4⟩
                                                  go_simp
                                                  with_reducible rfl
                                                rotate_left
                                                · simp only [Act.put, List.setIfInBounds_toArray, List.set_cons_zero, List.set_cons_succ, i64_w, i32_w]
                                                  rfl
                                                refine take_ (i := 16) (N := some 84) (v := ?_) (a' := ?_) #[true, true, true, true, true, true, true, true, true, true, true, true, true, true, true, true, true, true, true, false, false, false, false, false, false] rfl rfl (take_ofW HT_.out HW_.out (by kernel_rfl)) (fun _ _ _ h => h) (Or.inl ⟨by rfl, ?_⟩) hHeld ?_ ?_
                                                rotate_left
                                                · rintro w' ⟨s0, s1, s2, s3, s4⟩
                                                  go_simp
                                                  with_reducible rfl
                                                rotate_left
                                                · simp only [Act.put, List.setIfInBounds_toArray, List.set_cons_zero, List.set_cons_succ, i64_w, i32_w]
                                                  rfl
                                                refine pure_ (i := 19) (N := some 87) (v := ?_) (a' := ?_) #[true, true, true, true, true, true, true, true, true, true, true, true, true, true, true, true, true, true, true, true, false, false, false, false, false] rfl rfl (any_of HT_.out (by kernel_rfl)) (fun _ _ _ h => h) (Or.inl ⟨by rfl, ?_⟩) ?_ ?_
                                                rotate_left
                                                · intro w'
                                                  go_simp
                                                  with_reducible rfl
                                                rotate_left
                                                · simp only [Act.put, List.setIfInBounds_toArray, List.set_cons_zero, List.set_cons_succ, i64_w, i32_w]
                                                  rfl
                                                refine take_ (i := 20) (N := some 88) (v := ?_) (a' := ?_) #[true, true, true, true, true, true, true, true, true, true, true, true, true, true, true, true, true, true, true, true, true, false, false, false, false] rfl rfl (take_ofW HT_.out HW_.out (by kernel_rfl)) (fun _ _ _ h => h) (Or.inl ⟨by rfl, ?_⟩) hHeld ?_ ?_
                                                rotate_left
                                                · rintro w' ⟨s0, s1, s2, s3, s4⟩
                                                  go_simp
                                                  with_reducible rfl
                                                rotate_left
                                                · simp only [Act.put, List.setIfInBounds_toArray, List.set_cons_zero, List.set_cons_succ, i64_w, i32_w]
                                                  rfl
                                                refine pure_ (i := 21) (N := some 89) (v := ?_) (a' := ?_) #[true, true, true, true, true, true, true, true, true, true, true, true, true, true, true, true, true, true, true, true, true, true, false, false, false] rfl rfl (any_of HT_.out (by kernel_rfl)) (fun _ _ _ h => h) (Or.inl ⟨by rfl, ?_⟩) ?_ ?_
                                                rotate_left
                                                · intro w'
                                                  go_simp
                                                  with_reducible rfl
                                                rotate_left
                                                · simp only [Act.put, List.setIfInBounds_toArray, List.set_cons_zero, List.set_cons_succ, i64_w, i32_w]
                                                  rfl
                                                refine pure_ (i := 22) (N := some 90) (v := ?_) (a' := ?_) #[true, true, true, true, true, true, true, true, true, true, true, true, true, true, true, true, true, true, true, true, true, true, true, false, false] rfl rfl (any_of HT_.out (by kernel_rfl)) (fun _ _ _ h => h) (Or.inl ⟨by rfl, ?_⟩) ?_ ?_
                                                rotate_left
                                                · intro w'
                                                  go_simp
                                                  with_reducible rfl
                                                rotate_left
                                                · simp only [Act.put, List.setIfInBounds_toArray, List.set_cons_zero, List.set_cons_succ, i64_w, i32_w]
                                                  rfl
                                                refine pure_ (i := 23) (N := some 91) (v := ?_) (a' := ?_) #[true, true, true, true, true, true, true, true, true, true, true, true, true, true, true, true, true, true, true, true, true, true, true, true, false] rfl rfl (any_of HT_.out (by kernel_rfl)) (fun _ _ _ h => h) (Or.inl ⟨by rfl, ?_⟩) ?_ ?_
                                                rotate_left
                                                · intro w'
                                                  go_simp
                                                  with_reducible rfl
                                                rotate_left
                                                · simp only [Act.put, List.setIfInBounds_toArray, List.set_cons_zero, List.set_cons_succ, i64_w, i32_w]
                                                  rfl
                                                refine last_ (i := 24) (N := none) #[true, true, true, true, true, true, true, true, true, true, true, true, true, true, true, true, true, true, true, true, true, true, true, true, true] rfl rfl (one_of HT_.out (by kernel_rfl)) (by decide) (fun K hK => ?_)
                                                refine skip_ (w1 := ?_) (by rfl) rfl ?_ ?_
                                                rotate_left
                                                · go_simp
                                                  rfl
                                                refine hK.out _ _ ?_
                                                clear hK K
                                                refine done_ (done_of HT_.out (by kernel_rfl)) ?_
                                                try go_wp2
                                                go_roundg k3
                                                case measure => have := HK1.out; have := HK2.out; have := HK3.out; omega
                                                case rel => exact ⟨(y177), (wrap64 (x8_3 - 1)), (by first | rfl | (simp; done) | (simp [*]; done)), H', ⟨by have := HK1.out; have := HK2.out; have := HK3.out; omega⟩, ⟨by (with_reducible repeat (first | apply Kd.S_alloc | apply Kd.S_drewN | apply Kd.S_drew)); exact HQ41.out⟩, ⟨by repeat (first | (with_reducible first | exact HB.out | apply below_alloc | apply pw_below_drewN | apply below_drew1 | refine below_set ?_ GB33.out) | exact HB.out)⟩⟩
                                              · rw [if_neg c31] at H
                                                exact absurd H (by simp)
                                            · rw [if_neg c30] at H
                                              exact absurd H (by simp)
                                          · rw [if_neg c29] at H
                                            have c29b0 : ((rd l0 x7_2) == (rd l1 x8_3)) = false := beq_eq_false_iff_ne.mpr c29
                                            have c29b1 : ((rd l0 x7_2) != (rd l1 x8_3)) = true := bne_iff_ne.mpr c29
                                            have H' := Aside0.mk H
                                            clear H
                                            try go_wp2
                                            have n0_ := Aside0.mk (Kd.S_drew HO_5.out)
                                            have n1_ := Aside0.mk (below_drew1 HB.out)
                                            clear HO_5
                                            clear HB
                                            have HO_5 := n0_
                                            have HB := n1_
                                            clear n0_ n1_
                                            obtain ⟨Ao44, co44, eo44⟩ := Kd.S_slice HO_5.out
                                            (first | subst eo44 | (injection eo44 with f1_ f2_ f3_; have f4_ := f1_.symm; have f5_ := f3_.symm; clear f1_ f2_ f3_; subst f4_; subst f5_))
                                            have p160 : 0 ≤ (x7_2 : Int) := of_decide_eq_true (by first | (with_reducible assumption) | assumption)
                                            have q160 : x7_2 < (x5_3.length : Int) := of_decide_eq_true (by first | (with_reducible assumption) | assumption)
                                            obtain ⟨ad160, A160_0, c160_0, e160, hx160_0, hl160_0, hi160_0⟩ := at_L3 (Kd.S_reads' HO_5.out).2.2 x7_2 p160 q160
                                            cases e160
                                            obtain ⟨ce160, hce160, hMe160, hcc160⟩ := Kd.S_get HO_5.out [] x7_2 p160 (by first | exact q160 | exact of_decide_eq_true (by first | (with_reducible assumption) | assumption) | (have e_ := (Kd.S_reads' HO_5.out).1; omega))
                                            obtain ⟨ve160_0, rfl, ge160_0⟩ := hMe160
                                            have hv160_0 := hcc160 0 _ rfl
                                            rw [Nat.add_zero, show ((Kd.slice 3 (Kd.int .i64))).sz = 1 from rfl, Nat.mul_one] at hv160_0
                                            replace hv160_0 := Option.some.inj (hv160_0.symm.trans hx160_0)
                                            rw [hv160_0] at ge160_0
                                            have HL160_0 := Aside0.mk (show Kd.R (Kd.int .i64) 3 _ _ _ _ (rd_L3 x5_3 x7_2) from ge160_0)
                                            clear hv160_0 ge160_0
                                            have HX160_0 := Aside0.mk hx160_0
                                            clear hcc160 hce160
                                            have HR160_0 := Aside0.mk hi160_0
                                            have HC160_0 := Aside0.mk hl160_0
                                            clear hi160_0 hl160_0
                                            replace p160 := eq_true p160
                                            replace q160 := eq_true q160
                                            have p161 : 0 ≤ ((ji16) : Int) := of_decide_eq_true (by first | (with_reducible assumption) | assumption)
                                            have q161 : (ji16) < (x5_3.length : Int) := of_decide_eq_true (by first | (with_reducible assumption) | assumption)
                                            obtain ⟨ad161, A161_0, c161_0, e161, hx161_0, hl161_0, hi161_0⟩ := at_L3 (Kd.S_reads' HO_5.out).2.2 (ji16) p161 q161
                                            obtain rfl : ad160 = ad161 := (by injection e161)
                                            obtain ⟨ce161, hce161, hMe161, hcc161⟩ := Kd.S_get HO_5.out [] (ji16) p161 (by first | exact q161 | exact of_decide_eq_true (by first | (with_reducible assumption) | assumption) | (have e_ := (Kd.S_reads' HO_5.out).1; omega))
                                            obtain ⟨ve161_0, rfl, ge161_0⟩ := hMe161
                                            have hv161_0 := hcc161 0 _ rfl
                                            rw [Nat.add_zero, show ((Kd.slice 3 (Kd.int .i64))).sz = 1 from rfl, Nat.mul_one] at hv161_0
                                            replace hv161_0 := Option.some.inj (hv161_0.symm.trans hx161_0)
                                            rw [hv161_0] at ge161_0
                                            have HL161_0 := Aside0.mk (show Kd.R (Kd.int .i64) 3 _ _ _ _ (rd_L3 x5_3 (ji16)) from ge161_0)
                                            clear hv161_0 ge161_0
                                            have HX161_0 := Aside0.mk hx161_0
                                            clear hcc161 hce161
                                            have HR161_0 := Aside0.mk hi161_0
                                            have HC161_0 := Aside0.mk hl161_0
                                            clear hi161_0 hl161_0
                                            replace p161 := eq_true p161
                                            replace q161 := eq_true q161
                                            have p162 : 0 ≤ (x8_3 : Int) := of_decide_eq_true (by first | (with_reducible assumption) | assumption)
                                            have q162 : x8_3 < ((rd_L3 x5_3 (ji16)).length : Int) := of_decide_eq_true (by first | (with_reducible assumption) | assumption)
                                            obtain ⟨ad162, e162, hx162_0⟩ := Kd.at_int (by repeat (first | (with_reducible exact HR161_0.out) | (with_reducible refine Kd.C_alloc ?_ _) | (with_reducible refine Kd.C_drewN ?_ _) | (with_reducible refine Kd.C_drew ?_) | exact HR161_0.out)) x8_3 p162 q162
                                            cases e162
                                            replace p162 := eq_true p162
                                            replace q162 := eq_true q162
                                            have p163 : 0 ≤ (x7_2 : Int) := of_decide_eq_true (by first | (with_reducible assumption) | assumption)
                                            have q163 : x7_2 < (x5_3.length : Int) := of_decide_eq_true (by first | (with_reducible assumption) | assumption)
                                            obtain ⟨ad163, A163_0, c163_0, e163, hx163_0, hl163_0, hi163_0⟩ := at_L3 (Kd.S_reads' HO_5.out).2.2 x7_2 p163 q163
                                            obtain rfl : ad160 = ad163 := (by injection e163)
                                            obtain ⟨ce163, hce163, hMe163, hcc163⟩ := Kd.S_get HO_5.out [] x7_2 p163 (by first | exact q163 | exact of_decide_eq_true (by first | (with_reducible assumption) | assumption) | (have e_ := (Kd.S_reads' HO_5.out).1; omega))
                                            obtain ⟨ve163_0, rfl, ge163_0⟩ := hMe163
                                            have hv163_0 := hcc163 0 _ rfl
                                            rw [Nat.add_zero, show ((Kd.slice 3 (Kd.int .i64))).sz = 1 from rfl, Nat.mul_one] at hv163_0
                                            replace hv163_0 := Option.some.inj (hv163_0.symm.trans hx163_0)
                                            rw [hv163_0] at ge163_0
                                            have HL163_0 := Aside0.mk (show Kd.R (Kd.int .i64) 3 _ _ _ _ (rd_L3 x5_3 x7_2) from ge163_0)
                                            clear hv163_0 ge163_0
                                            have HX163_0 := Aside0.mk hx163_0
                                            clear hcc163 hce163
                                            have HR163_0 := Aside0.mk hi163_0
                                            have HC163_0 := Aside0.mk hl163_0
                                            clear hi163_0 hl163_0
                                            replace p163 := eq_true p163
                                            replace q163 := eq_true q163
                                            have ea_ := Option.some.inj (hx160_0.symm.trans hx163_0)
                                            injection ea_ with ea_ en_ ec_
                                            subst ea_
                                            subst ec_
                                            clear en_
                                            have p164 : 0 ≤ ((ji21) : Int) := of_decide_eq_true (by first | (with_reducible assumption) | assumption)
                                            have q164 : (ji21) < ((rd_L3 x5_3 x7_2).length : Int) := of_decide_eq_true (by first | (with_reducible assumption) | assumption)
                                            obtain ⟨ad164, e164, hx164_0⟩ := Kd.at_int (by repeat (first | (with_reducible exact HR163_0.out) | (with_reducible refine Kd.C_alloc ?_ _) | (with_reducible refine Kd.C_drewN ?_ _) | (with_reducible refine Kd.C_drew ?_) | exact HR163_0.out)) (ji21) p164 q164
                                            cases e164
                                            replace p164 := eq_true p164
                                            replace q164 := eq_true q164
                                            have p26 : 0 ≤ (x8_3 : Int) := of_decide_eq_true (by first | (with_reducible assumption) | assumption)
                                            have q26 : (x8_3 : Int) < (((rd_L3 x5_3 x7_2).length : Int) : Int) := of_decide_eq_true (by first | (with_reducible assumption) | assumption)
                                            obtain ⟨go26, co26, eo26, gb26, gl26, cl26, HG26⟩ := Kd.R_form HL160_0.out (by omega)
                                            (first | cases eo26 | (injection eo26 with ea_ en_ ec_; (first | subst ea_ | (injection ea_ with ea_; subst ea_)); subst ec_; clear en_))
                                            have GB26 := Aside0.mk gb26
                                            have GG26 := Aside0.mk HG26
                                            clear gb26 gl26 HG26
                                            (first | simp only [add_plain] at hx164_0 | skip)
                                            obtain ⟨hx26_0, hf26_0⟩ := Kd.R_celln 0 HL160_0.out (x8_3 : Int) p26 q26
                                            replace p26 := eq_true p26
                                            replace q26 := eq_true q26
                                            have hq45 : (x7_2 : Int) < (x5_3.length : Int) := (by have h_ : (x7_2 : Int) < ((x5_3.length : Int) : Int) := of_decide_eq_true (by first | (with_reducible assumption) | assumption); first | exact h_ | (have e_ := (Kd.S_reads' HO_5.out).1; omega) | simpa only [List.length_set, List.length_set] using h_)
                                            obtain ⟨oki45, ce45, hcl45, hM45, hcc45, hok45, hbk45⟩ := Kd.S_borrow HO_5.out [] (x7_2 : Int) (of_decide_eq_true (by first | (with_reducible assumption) | assumption)) hq45
                                            obtain ⟨ve45_0, rfl, ge45_0⟩ := hM45
                                            have hv45 := hcc45 0 _ rfl
                                            rw [Nat.add_zero, show ((Kd.slice 3 (Kd.int .i64))).sz = 1 from rfl, Nat.mul_one] at hv45
                                            replace hv45 := Option.some.inj (hv45.symm.trans HX160_0.out)
                                            subst hv45
                                            clear hcc45 hcl45
                                            replace ge45_0 := (show Kd.R (Kd.int .i64) 3 _ _ _ _ (rd_L3 x5_3 x7_2) from ge45_0)
                                            have HP45 := Kd.R_putg ge45_0 (x8_3 : Int) ji24
                                            rw [← Ny165.out] at HP45
                                            have HS45 := hbk45 HP45.2 (fun k_ e_ => by injection e_ with e_; subst e_; exact ge45_0.1 _ rfl) (x' := y165) (Kd.M_row HP45.1)
                                            rw [← Ny167.out] at HS45
                                            have HQ45 := Aside0.mk HS45
                                            clear HP45 HS45 hbk45 hok45
                                            refine start_ (n := 24) (S := fun w' => w'.cell? (ad160.add (x7_2).toNat) = some (.slice (some (⟨go26, 0, none⟩ : Addr)) (rd_L3 x5_3 x7_2).length c160_0) ∧ w'.cell? (ad160.add ((ji16)).toNat) = some (.slice (some ad162) (rd_L3 x5_3 (ji16)).length c161_0) ∧ w'.cell? (ad162.add (x8_3).toNat) = some (.int .i64 (rd (rd_L3 x5_3 (ji16)) x8_3)) ∧ w'.cell? (ad160.add (x7_2).toNat) = some (.slice (some (⟨go26, 0, none⟩ : Addr)) (rd_L3 x5_3 x7_2).length c160_0) ∧ w'.cell? ⟨go26, ((ji21)).toNat, none⟩ = some (.int .i64 (rd (rd_L3 x5_3 x7_2) (ji21)))) (ds := [23]) #[false, false, false, false, false, false, false, false, false, false, false, false, false, false, false, false, false, false, false, false, false, false, false, false] (by kernel_rfl) rfl rfl ⟨hx160_0, hx161_0, hx162_0, hx163_0, hx164_0⟩ (fun hHeld => ?_); refine with_tabW ligatureref31_Lengths.tab12 ligatureref31_Lengths.bits12 (fun HT_ HW_ => ?_)
                                            generalize wr.drew = w43 at HO_5 HB GG26 HL160_0 HL161_0 HL163_0 HQ45 HR160_0 HR161_0 HR163_0 HX160_0 HX161_0 HX163_0 hf26_0 hx160_0 hx161_0 hx162_0 hx163_0 hx164_0 hx26_0 hHeld ⊢
                                            refine pure_ (i := 0) (N := some 36) (v := ?_) (a' := ?_) #[true, false, false, false, false, false, false, false, false, false, false, false, false, false, false, false, false, false, false, false, false, false, false, false] rfl rfl (any_of HT_.out (by kernel_rfl)) (fun _ _ _ h => h) (Or.inl ⟨by rfl, ?_⟩) ?_ ?_
                                            rotate_left
                                            · intro w'
                                              go_simp
                                              with_reducible rfl
                                            rotate_left
                                            · simp only [Act.put, List.setIfInBounds_toArray, List.set_cons_zero, List.set_cons_succ, i64_w, i32_w]
                                              rfl
                                            refine pure_ (i := 1) (N := some 37) (v := ?_) (a' := ?_) #[true, true, false, false, false, false, false, false, false, false, false, false, false, false, false, false, false, false, false, false, false, false, false, false] rfl rfl (any_of HT_.out (by kernel_rfl)) (fun _ _ _ h => h) (Or.inl ⟨by rfl, ?_⟩) ?_ ?_
                                            rotate_left
                                            · intro w'
                                              go_simp
                                              with_reducible rfl
                                            rotate_left
                                            · simp only [Act.put, List.setIfInBounds_toArray, List.set_cons_zero, List.set_cons_succ, i64_w, i32_w]
                                              rfl
                                            refine pure_ (i := 2) (N := some 38) (v := ?_) (a' := ?_) #[true, true, true, false, false, false, false, false, false, false, false, false, false, false, false, false, false, false, false, false, false, false, false, false] rfl rfl (any_of HT_.out (by kernel_rfl)) (fun _ _ _ h => h) (Or.inl ⟨by rfl, ?_⟩) ?_ ?_
                                            rotate_left
                                            · intro w'
                                              go_simp
                                              with_reducible rfl
                                            rotate_left
                                            · simp only [Act.put, List.setIfInBounds_toArray, List.set_cons_zero, List.set_cons_succ, i64_w, i32_w]
                                              rfl
                                            refine pure_ (i := 4) (N := some 40) (v := ?_) (a' := ?_) #[true, true, true, false, true, false, false, false, false, false, false, false, false, false, false, false, false, false, false, false, false, false, false, false] rfl rfl (any_of HT_.out (by kernel_rfl)) (fun _ _ _ h => h) (Or.inl ⟨by rfl, ?_⟩) ?_ ?_
                                            rotate_left
                                            · intro w'
                                              go_simp
                                              with_reducible rfl
                                            rotate_left
                                            · simp only [Act.put, List.setIfInBounds_toArray, List.set_cons_zero, List.set_cons_succ, i64_w, i32_w]
                                              rfl
                                            refine pure_ (i := 5) (N := some 41) (v := ?_) (a' := ?_) #[true, true, true, false, true, true, false, false, false, false, false, false, false, false, false, false, false, false, false, false, false, false, false, false] rfl rfl (any_of HT_.out (by kernel_rfl)) (fun _ _ _ h => h) (Or.inl ⟨by rfl, ?_⟩) ?_ ?_
                                            rotate_left
                                            · intro w'
                                              go_simp
                                              with_reducible rfl
                                            rotate_left
                                            · simp only [Act.put, List.setIfInBounds_toArray, List.set_cons_zero, List.set_cons_succ, i64_w, i32_w]
                                              rfl
                                            refine pure_ (i := 6) (N := some 42) (v := ?_) (a' := ?_) #[true, true, true, false, true, true, true, false, false, false, false, false, false, false, false, false, false, false, false, false, false, false, false, false] rfl rfl (any_of HT_.out (by kernel_rfl)) (fun _ _ _ h => h) (Or.inl ⟨by rfl, ?_⟩) ?_ ?_
                                            rotate_left
                                            · intro w'
                                              go_simp
                                              with_reducible rfl
                                            rotate_left
                                            · simp only [Act.put, List.setIfInBounds_toArray, List.set_cons_zero, List.set_cons_succ, i64_w, i32_w]
                                              rfl
                                            refine pure_ (i := 7) (N := some 43) (v := ?_) (a' := ?_) #[true, true, true, false, true, true, true, true, false, false, false, false, false, false, false, false, false, false, false, false, false, false, false, false] rfl rfl (any_of HT_.out (by kernel_rfl)) (fun _ _ _ h => h) (Or.inl ⟨by rfl, ?_⟩) ?_ ?_
                                            rotate_left
                                            · intro w'
                                              go_simp
                                              with_reducible rfl
                                            rotate_left
                                            · simp only [Act.put, List.setIfInBounds_toArray, List.set_cons_zero, List.set_cons_succ, i64_w, i32_w]
                                              rfl
                                            refine pure_ (i := 8) (N := some 44) (v := ?_) (a' := ?_) #[true, true, true, false, true, true, true, true, true, false, false, false, false, false, false, false, false, false, false, false, false, false, false, false] rfl rfl (any_of HT_.out (by kernel_rfl)) (fun _ _ _ h => h) (Or.inl ⟨by rfl, ?_⟩) ?_ ?_
                                            rotate_left
                                            · intro w'
                                              go_simp
                                              with_reducible rfl
                                            rotate_left
                                            · simp only [Act.put, List.setIfInBounds_toArray, List.set_cons_zero, List.set_cons_succ, i64_w, i32_w]
                                              rfl
                                            refine pure_ (i := 10) (N := some 46) (v := ?_) (a' := ?_) #[true, true, true, false, true, true, true, true, true, false, true, false, false, false, false, false, false, false, false, false, false, false, false, false] rfl rfl (any_of HT_.out (by kernel_rfl)) (fun _ _ _ h => h) (Or.inl ⟨by rfl, ?_⟩) ?_ ?_
                                            rotate_left
                                            · intro w'
                                              go_simp
                                              with_reducible rfl
                                            rotate_left
                                            · simp only [Act.put, List.setIfInBounds_toArray, List.set_cons_zero, List.set_cons_succ, i64_w, i32_w]
                                              rfl
                                            refine pure_ (i := 13) (N := some 49) (v := ?_) (a' := ?_) #[true, true, true, false, true, true, true, true, true, false, true, false, false, true, false, false, false, false, false, false, false, false, false, false] rfl rfl (any_of HT_.out (by kernel_rfl)) (fun _ _ _ h => h) (Or.inl ⟨by rfl, ?_⟩) ?_ ?_
                                            rotate_left
                                            · intro w'
                                              go_simp
                                              with_reducible rfl
                                            rotate_left
                                            · simp only [Act.put, List.setIfInBounds_toArray, List.set_cons_zero, List.set_cons_succ, i64_w, i32_w]
                                              rfl
                                            refine pure_ (i := 14) (N := some 50) (v := ?_) (a' := ?_) #[true, true, true, false, true, true, true, true, true, false, true, false, false, true, true, false, false, false, false, false, false, false, false, false] rfl rfl (any_of HT_.out (by kernel_rfl)) (fun _ _ _ h => h) (Or.inl ⟨by rfl, ?_⟩) ?_ ?_
                                            rotate_left
                                            · intro w'
                                              go_simp
                                              with_reducible rfl
                                            rotate_left
                                            · simp only [Act.put, List.setIfInBounds_toArray, List.set_cons_zero, List.set_cons_succ, i64_w, i32_w]
                                              rfl
                                            refine pure_ (i := 15) (N := some 51) (v := ?_) (a' := ?_) #[true, true, true, false, true, true, true, true, true, false, true, false, false, true, true, true, false, false, false, false, false, false, false, false] rfl rfl (any_of HT_.out (by kernel_rfl)) (fun _ _ _ h => h) (Or.inl ⟨by rfl, ?_⟩) ?_ ?_
                                            rotate_left
                                            · intro w'
                                              go_simp
                                              with_reducible rfl
                                            rotate_left
                                            · simp only [Act.put, List.setIfInBounds_toArray, List.set_cons_zero, List.set_cons_succ, i64_w, i32_w]
                                              rfl
                                            refine pure_ (i := 17) (N := some 53) (v := ?_) (a' := ?_) #[true, true, true, false, true, true, true, true, true, false, true, false, false, true, true, true, false, true, false, false, false, false, false, false] rfl rfl (any_of HT_.out (by kernel_rfl)) (fun _ _ _ h => h) (Or.inl ⟨by rfl, ?_⟩) ?_ ?_
                                            rotate_left
                                            · intro w'
                                              go_simp
                                              with_reducible rfl
                                            rotate_left
                                            · simp only [Act.put, List.setIfInBounds_toArray, List.set_cons_zero, List.set_cons_succ, i64_w, i32_w]
                                              rfl
                                            refine pure_ (i := 18) (N := some 54) (v := ?_) (a' := ?_) #[true, true, true, false, true, true, true, true, true, false, true, false, false, true, true, true, false, true, true, false, false, false, false, false] rfl rfl (any_of HT_.out (by kernel_rfl)) (fun _ _ _ h => h) (Or.inl ⟨by rfl, ?_⟩) ?_ ?_
                                            rotate_left
                                            · intro w'
                                              go_simp
                                              with_reducible rfl
                                            rotate_left
                                            · simp only [Act.put, List.setIfInBounds_toArray, List.set_cons_zero, List.set_cons_succ, i64_w, i32_w]
                                              rfl
                                            refine take_ (i := 3) (N := some 39) (v := ?_) (a' := ?_) #[true, true, true, true, true, true, true, true, true, false, true, false, false, true, true, true, false, true, true, false, false, false, false, false] rfl rfl (take_ofW HT_.out HW_.out (by kernel_rfl)) (fun _ _ _ h => h) (Or.inl ⟨by rfl, ?_⟩) hHeld ?_ ?_
                                            rotate_left
                                            · rintro w' ⟨s0, s1, s2, s3, s4⟩
                                              go_simp
                                              with_reducible rfl
                                            rotate_left
                                            · simp only [Act.put, List.setIfInBounds_toArray, List.set_cons_zero, List.set_cons_succ, i64_w, i32_w]
                                              rfl
                                            refine take_ (i := 9) (N := some 45) (v := ?_) (a' := ?_) #[true, true, true, true, true, true, true, true, true, true, true, false, false, true, true, true, false, true, true, false, false, false, false, false] rfl rfl (take_ofW HT_.out HW_.out (by kernel_rfl)) (fun _ _ _ h => h) (Or.inl ⟨by rfl, ?_⟩) hHeld ?_ ?_
                                            rotate_left
                                            · rintro w' ⟨s0, s1, s2, s3, s4⟩
                                              go_simp
                                              with_reducible rfl
                                            rotate_left
                                            · simp only [Act.put, List.setIfInBounds_toArray, List.set_cons_zero, List.set_cons_succ, i64_w, i32_w]
                                              rfl
                                            refine pure_ (i := 11) (N := some 47) (v := ?_) (a' := ?_) #[true, true, true, true, true, true, true, true, true, true, true, true, false, true, true, true, false, true, true, false, false, false, false, false] rfl rfl (any_of HT_.out (by kernel_rfl)) (fun _ _ _ h => h) (Or.inl ⟨by rfl, ?_⟩) ?_ ?_
                                            rotate_left
                                            · intro w'
                                              go_simp
                                              with_reducible rfl
                                            rotate_left
                                            · simp only [Act.put, List.setIfInBounds_toArray, List.set_cons_zero, List.set_cons_succ, i64_w, i32_w]
                                              rfl
                                            refine take_ (i := 12) (N := some 48) (v := ?_) (a' := ?_) #[true, true, true, true, true, true, true, true, true, true, true, true, true, true, true, true, false, true, true, false, false, false, false, false] rfl rfl (take_ofW HT_.out HW_.out (by kernel_rfl)) (fun _ _ _ h => h) (Or.inl ⟨by rfl, ?_⟩) hHeld ?_ ?_
                                            rotate_left
                                            · rintro w' ⟨s0, s1, s2, s3, s4⟩
                                              go_simp
                                              with_reducible rfl
                                            rotate_left
                                            · simp only [Act.put, List.setIfInBounds_toArray, List.set_cons_zero, List.set_cons_succ, i64_w, i32_w]
                                              rfl
                                            refine take_ (i := 16) (N := some 52) (v := ?_) (a' := ?_) #[true, true, true, true, true, true, true, true, true, true, true, true, true, true, true, true, true, true, true, false, false, false, false, false] rfl rfl (take_ofW HT_.out HW_.out (by kernel_rfl)) (fun _ _ _ h => h) (Or.inl ⟨by rfl, ?_⟩) hHeld ?_ ?_
                                            rotate_left
                                            · rintro w' ⟨s0, s1, s2, s3, s4⟩
                                              go_simp
                                              with_reducible rfl
                                            rotate_left
                                            · simp only [Act.put, List.setIfInBounds_toArray, List.set_cons_zero, List.set_cons_succ, i64_w, i32_w]
                                              rfl
                                            refine pure_ (i := 19) (N := some 55) (v := ?_) (a' := ?_) #[true, true, true, true, true, true, true, true, true, true, true, true, true, true, true, true, true, true, true, true, false, false, false, false] rfl rfl (any_of HT_.out (by kernel_rfl)) (fun _ _ _ h => h) (Or.inl ⟨by rfl, ?_⟩) ?_ ?_
                                            rotate_left
                                            · intro w'
                                              go_simp
                                              with_reducible rfl
                                            rotate_left
                                            · simp only [Act.put, List.setIfInBounds_toArray, List.set_cons_zero, List.set_cons_succ, i64_w, i32_w]
                                              rfl
                                            refine take_ (i := 20) (N := some 56) (v := ?_) (a' := ?_) #[true, true, true, true, true, true, true, true, true, true, true, true, true, true, true, true, true, true, true, true, true, false, false, false] rfl rfl (take_ofW HT_.out HW_.out (by kernel_rfl)) (fun _ _ _ h => h) (Or.inl ⟨by rfl, ?_⟩) hHeld ?_ ?_
                                            rotate_left
                                            · rintro w' ⟨s0, s1, s2, s3, s4⟩
                                              go_simp
                                              with_reducible rfl
                                            rotate_left
                                            · simp only [Act.put, List.setIfInBounds_toArray, List.set_cons_zero, List.set_cons_succ, i64_w, i32_w]
                                              rfl
                                            refine pure_ (i := 21) (N := some 57) (v := ?_) (a' := ?_) #[true, true, true, true, true, true, true, true, true, true, true, true, true, true, true, true, true, true, true, true, true, true, false, false] rfl rfl (any_of HT_.out (by kernel_rfl)) (fun _ _ _ h => h) (Or.inl ⟨by rfl, ?_⟩) ?_ ?_
                                            rotate_left
                                            · intro w'
                                              go_simp
                                              with_reducible rfl
                                            rotate_left
                                            · simp only [Act.put, List.setIfInBounds_toArray, List.set_cons_zero, List.set_cons_succ, i64_w, i32_w]
                                              rfl
                                            refine pure_ (i := 22) (N := some 58) (v := ?_) (a' := ?_) #[true, true, true, true, true, true, true, true, true, true, true, true, true, true, true, true, true, true, true, true, true, true, true, false] rfl rfl (any_of HT_.out (by kernel_rfl)) (fun _ _ _ h => h) (Or.inl ⟨by rfl, ?_⟩) ?_ ?_
                                            rotate_left
                                            · intro w'
                                              go_simp
                                              with_reducible rfl
                                            rotate_left
                                            · simp only [Act.put, List.setIfInBounds_toArray, List.set_cons_zero, List.set_cons_succ, i64_w, i32_w]
                                              rfl
                                            refine last_ (i := 23) (N := none) #[true, true, true, true, true, true, true, true, true, true, true, true, true, true, true, true, true, true, true, true, true, true, true, true] rfl rfl (one_of HT_.out (by kernel_rfl)) (by decide) (fun K hK => ?_)
                                            refine skip_ (w1 := ?_) (by rfl) rfl ?_ ?_
                                            rotate_left
                                            · go_simp
                                              rfl
                                            refine hK.out _ _ ?_
                                            clear hK K
                                            refine done_ (done_of HT_.out (by kernel_rfl)) ?_
                                            try go_wp2
                                            have n0_ : Aside0 (Kd.S (Kd.slice 3 (Kd.int .i64)) 33 (w43.setCell ⟨go26, (x8_3 : Int).toNat, none⟩ (.int .i64 ji24)) w.heap.size (fun _ => True) (.slice (some ad160) x5_3.length co44) y167) := ⟨by (with_reducible repeat (first | apply Kd.S_alloc | apply Kd.S_drewN | apply Kd.S_drew)); exact HQ45.out⟩
                                            have n1_ : Aside0 (Below w.heap.size w (w43.setCell ⟨go26, (x8_3 : Int).toNat, none⟩ (.int .i64 ji24))) := ⟨by repeat (first | (with_reducible first | exact HB.out | apply below_alloc | apply pw_below_drewN | apply below_drew1 | refine below_set ?_ GB26.out) | exact HB.out)⟩
                                            (try clear HO_5)
                                            (try clear HB)
                                            generalize (w43.setCell ⟨go26, (x8_3 : Int).toNat, none⟩ (.int .i64 ji24)) = w47 at n0_ n1_ ⊢
                                            have HO_5 := n0_
                                            have HB := n1_
                                            clear n0_ n1_
                                            have n0_ := Aside0.mk (Kd.S_drew HO_5.out)
                                            have n1_ := Aside0.mk (below_drew1 HB.out)
                                            clear HO_5
                                            clear HB
                                            have HO_5 := n0_
                                            have HB := n1_
                                            clear n0_ n1_
                                            have p168 : 0 ≤ (x7_2 : Int) := of_decide_eq_true (by first | (with_reducible assumption) | assumption)
                                            have q168 : x7_2 < (l0.length : Int) := of_decide_eq_true (by first | (with_reducible assumption) | assumption)
                                            obtain ⟨ad168, e168, hx168_0⟩ := Kd.at_int HR0.out x7_2 p168 q168
                                            have hw168_0 := hx168_0
                                            cases e168
                                            replace hx168_0 := (HB.out.cell (World.block_lt_of_cell? w _ hx168_0)).trans hx168_0
                                            replace p168 := eq_true p168
                                            replace q168 := eq_true q168
                                            have p169 : 0 ≤ (x8_3 : Int) := of_decide_eq_true (by first | (with_reducible assumption) | assumption)
                                            have q169 : x8_3 < (l1.length : Int) := of_decide_eq_true (by first | (with_reducible assumption) | assumption)
                                            obtain ⟨ad169, e169, hx169_0⟩ := Kd.at_int HR1.out x8_3 p169 q169
                                            have hw169_0 := hx169_0
                                            cases e169
                                            replace hx169_0 := (HB.out.cell (World.block_lt_of_cell? w _ hx169_0)).trans hx169_0
                                            replace p169 := eq_true p169
                                            replace q169 := eq_true q169
                                            refine start_ (n := 9) (S := fun w' => w'.cell? (ad168.add (x7_2).toNat) = some (.int .i64 (rd l0 x7_2)) ∧ w'.cell? (ad169.add (x8_3).toNat) = some (.int .i64 (rd l1 x8_3))) (ds := []) #[false, false, false, false, false, false, false, false, false] (by kernel_rfl) rfl rfl ⟨((HB.out.cell (World.block_lt_of_cell? w _ hw168_0)).trans hw168_0), ((HB.out.cell (World.block_lt_of_cell? w _ hw169_0)).trans hw169_0)⟩ (fun hHeld => ?_); refine with_tabW ligatureref31_Lengths.tab13 ligatureref31_Lengths.bits13 (fun HT_ HW_ => ?_)
                                            generalize w47.drew = w48 at HO_5 HB HQ45 hx168_0 hx169_0 hHeld ⊢
                                            refine pure_ (i := 0) (N := some 59) (v := ?_) (a' := ?_) #[true, false, false, false, false, false, false, false, false] rfl rfl (any_of HT_.out (by kernel_rfl)) (fun _ _ _ h => h) (Or.inl ⟨by rfl, ?_⟩) ?_ ?_
                                            rotate_left
                                            · intro w'
                                              go_simp
                                              with_reducible rfl
                                            rotate_left
                                            · simp only [Act.put, List.setIfInBounds_toArray, List.set_cons_zero, List.set_cons_succ, i64_w, i32_w]
                                              rfl
                                            refine pure_ (i := 1) (N := some 60) (v := ?_) (a' := ?_) #[true, true, false, false, false, false, false, false, false] rfl rfl (any_of HT_.out (by kernel_rfl)) (fun _ _ _ h => h) (Or.inl ⟨by rfl, ?_⟩) ?_ ?_
                                            rotate_left
                                            · intro w'
                                              go_simp
                                              with_reducible rfl
                                            rotate_left
                                            · simp only [Act.put, List.setIfInBounds_toArray, List.set_cons_zero, List.set_cons_succ, i64_w, i32_w]
                                              rfl
                                            refine pure_ (i := 2) (N := some 61) (v := ?_) (a' := ?_) #[true, true, true, false, false, false, false, false, false] rfl rfl (any_of HT_.out (by kernel_rfl)) (fun _ _ _ h => h) (Or.inl ⟨by rfl, ?_⟩) ?_ ?_
                                            rotate_left
                                            · intro w'
                                              go_simp
                                              with_reducible rfl
                                            rotate_left
                                            · simp only [Act.put, List.setIfInBounds_toArray, List.set_cons_zero, List.set_cons_succ, i64_w, i32_w]
                                              rfl
                                            refine pure_ (i := 4) (N := some 63) (v := ?_) (a' := ?_) #[true, true, true, false, true, false, false, false, false] rfl rfl (any_of HT_.out (by kernel_rfl)) (fun _ _ _ h => h) (Or.inl ⟨by rfl, ?_⟩) ?_ ?_
                                            rotate_left
                                            · intro w'
                                              go_simp
                                              with_reducible rfl
                                            rotate_left
                                            · simp only [Act.put, List.setIfInBounds_toArray, List.set_cons_zero, List.set_cons_succ, i64_w, i32_w]
                                              rfl
                                            refine pure_ (i := 5) (N := some 64) (v := ?_) (a' := ?_) #[true, true, true, false, true, true, false, false, false] rfl rfl (any_of HT_.out (by kernel_rfl)) (fun _ _ _ h => h) (Or.inl ⟨by rfl, ?_⟩) ?_ ?_
                                            rotate_left
                                            · intro w'
                                              go_simp
                                              with_reducible rfl
                                            rotate_left
                                            · simp only [Act.put, List.setIfInBounds_toArray, List.set_cons_zero, List.set_cons_succ, i64_w, i32_w]
                                              rfl
                                            refine pure_ (i := 6) (N := some 65) (v := ?_) (a' := ?_) #[true, true, true, false, true, true, true, false, false] rfl rfl (any_of HT_.out (by kernel_rfl)) (fun _ _ _ h => h) (Or.inl ⟨by rfl, ?_⟩) ?_ ?_
                                            rotate_left
                                            · intro w'
                                              go_simp
                                              with_reducible rfl
                                            rotate_left
                                            · simp only [Act.put, List.setIfInBounds_toArray, List.set_cons_zero, List.set_cons_succ, i64_w, i32_w]
                                              rfl
                                            refine take_ (i := 3) (N := some 62) (v := ?_) (a' := ?_) #[true, true, true, true, true, true, true, false, false] rfl rfl (take_ofW HT_.out HW_.out (by kernel_rfl)) (fun _ _ _ h => h) (Or.inl ⟨by rfl, ?_⟩) hHeld ?_ ?_
                                            rotate_left
                                            · rintro w' ⟨s0, s1⟩
                                              go_simp
                                              with_reducible rfl
                                            rotate_left
                                            · simp only [Act.put, List.setIfInBounds_toArray, List.set_cons_zero, List.set_cons_succ, i64_w, i32_w]
                                              rfl
                                            refine take_ (i := 7) (N := some 66) (v := ?_) (a' := ?_) #[true, true, true, true, true, true, true, true, false] rfl rfl (take_ofW HT_.out HW_.out (by kernel_rfl)) (fun _ _ _ h => h) (Or.inl ⟨by rfl, ?_⟩) hHeld ?_ ?_
                                            rotate_left
                                            · rintro w' ⟨s0, s1⟩
                                              go_simp
                                              with_reducible rfl
                                            rotate_left
                                            · simp only [Act.put, List.setIfInBounds_toArray, List.set_cons_zero, List.set_cons_succ, i64_w, i32_w]
                                              rfl
                                            refine pure_ (i := 8) (N := some 67) (v := ?_) (a' := ?_) #[true, true, true, true, true, true, true, true, true] rfl rfl (any_of HT_.out (by kernel_rfl)) (fun _ _ _ h => h) (Or.inl ⟨by rfl, ?_⟩) ?_ ?_
                                            rotate_left
                                            · intro w'
                                              go_simp
                                              with_reducible rfl
                                            rotate_left
                                            · simp only [Act.put, List.setIfInBounds_toArray, List.set_cons_zero, List.set_cons_succ, i64_w, i32_w]
                                              rfl
                                            refine done_ (done_of HT_.out (by kernel_rfl)) ?_
                                            try go_wp2
                                            go_roundg k3
                                            case measure => have := HK1.out; have := HK2.out; have := HK3.out; omega
                                            case rel => exact ⟨(y167), (wrap64 (x8_3 - 1)), (by first | rfl | (simp; done) | (simp [*]; done)), H', ⟨by have := HK1.out; have := HK2.out; have := HK3.out; omega⟩, ⟨by (with_reducible repeat (first | apply Kd.S_alloc | apply Kd.S_drewN | apply Kd.S_drew)); exact HO_5.out⟩, ⟨by repeat (first | (with_reducible first | exact HB.out | apply below_alloc | apply pw_below_drewN | apply below_drew1) | exact HB.out)⟩⟩
                                        · rw [if_neg c28] at H
                                          exact absurd H (by simp)
                                      · rw [if_neg c27] at H
                                        exact absurd H (by simp)
                                    · rw [if_neg c25] at H
                                      exact absurd H (by simp)
                                  · rw [if_neg c23] at H
                                    exact absurd H (by simp)
                                · rw [if_neg c22] at H
                                  exact absurd H (by simp)
                              · rw [if_neg c20] at H
                                exact absurd H (by simp)
                            · rw [if_neg c19] at H
                              exact absurd H (by simp)
                          · rw [if_neg c18] at H
                            exact absurd H (by simp)
                        · rw [if_neg c17] at H
                          exact absurd H (by simp)
                      · rw [if_neg c15] at H
                        exact absurd H (by simp)
                    · rw [if_neg c14] at H
                      exact absurd H (by simp)
                  · rw [if_neg c13] at H
                    have c13b0 : decide (0 ≤ x8_3) = false := decide_eq_false c13
                    clear c13
                    have H' := Aside0.mk H
                    clear H
                    go_wp2
                    go_roundg k3
                    case measure => have := HK1.out; have := HK2.out; have := HK3.out; omega
                    case rel => exact ⟨(x5_3), (wrap64 (x7_2 - 1)), (by first | rfl | (simp; done) | (simp [*]; done)), H', ⟨by have := HK1.out; have := HK2.out; have := HK3.out; omega⟩, ⟨by (with_reducible repeat (first | apply Kd.S_alloc | apply Kd.S_drewN | apply Kd.S_drew)); exact HO_5.out⟩, ⟨by repeat (first | (with_reducible first | exact HB.out | apply below_alloc | apply pw_below_drewN | apply below_drew1) | exact HB.out)⟩⟩
            · rw [if_neg c12] at H
              have c12b0 : decide (0 ≤ x7_2) = false := decide_eq_false c12
              clear c12
              obtain rfl := Option.some.inj H
              go_wp2
              go_ret
              exact ⟨_, by first | rfl | (simp [errW_none, errW_some] <;> rfl) | (simp [*, errW_none, errW_some] <;> rfl), by (with_reducible repeat (first | apply Kd.S_alloc | apply Kd.S_drewN | apply Kd.S_drew)); exact HO_5.out, by repeat (first | (with_reducible first | exact HB.out | apply below_alloc | apply pw_below_drewN | apply below_drew1) | exact HB.out)⟩

end Go.Proofs.Ytphdbombgljamaa.Rf
