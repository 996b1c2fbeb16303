import Derived.Test.YtkffhgiiejbnaaaGreatRfx0
import Derived.Test.YtkffhgiiejbnaaaGreatRF53
namespace Go.Proofs.YtkffhgiiejbnaaaGreat.Rf
open Go.RowKit Go.Proofs.YtkffhgiiejbnaaaGreatW.PrintWords Go.Proofs.YtkffhgiiejbnaaaGreatW.PrintLast Go.Proofs.YtkffhgiiejbnaaaGreatW.PrintMore
attribute [local go_sem] max2_int min2_int max_two min_two max_three min_three max_four min_four   -- for this text's walks alone
set_option linter.unusedVariables false
set_option linter.unusedSimpArgs false

/-! ### ligatureref09_Parse: function 16 -/
def ligatureref09_Parse.l0 : Nat → List (S93) → ByteArray → List Int → Option (List Int)
  | 0, _, _, _ => none
  | k + 1, x0, x1, x5 => if (x1.size : Int) > 0 then ((ligatureref09_At.f k x0 x1).bind fun t296 => (if t296 = 0 then (if 0 < (x1.size : Int) then (if x5.length < 17592186044416 then (if 1 ≤ (x1.size : Int) then (ligatureref09_Parse.l0 k x0 (x1.extract 1 x1.size) (x5 ++ [wrap64 (bt x1 0)])) else (none)) else (none)) else (none)) else (if x5.length < 17592186044416 then (if 0 ≤ (wrap64 ((-1) - t296)) then (if (wrap64 ((-1) - t296)) < (x0.length : Int) then (if 0 ≤ (((rd_T93 x0 (wrap64 ((-1) - t296))).f1).size : Int) then (if (((rd_T93 x0 (wrap64 ((-1) - t296))).f1).size : Int) ≤ (x1.size : Int) then (ligatureref09_Parse.l0 k x0 (x1.extract ((((rd_T93 x0 (wrap64 ((-1) - t296))).f1).size : Int) : Int).toNat x1.size) (x5 ++ [t296])) else (none)) else (none)) else (none)) else (none)) else (none)))) else (some x5)
def ligatureref09_Parse.f (k : Nat) (l0 : List (S93)) (a1 : ByteArray) : Option (List Int) := ligatureref09_Parse.l0 k l0 a1 ([] : List Int)
theorem ligatureref09_Parse.mono_l : ∀ k, (∀ y0 y1 y2, LeO (ligatureref09_Parse.l0 k y0 y1 y2) (ligatureref09_Parse.l0 (k + 1) y0 y1 y2))
  | 0 => fun _ _ _ r h => by simp [ligatureref09_Parse.l0] at h
  | k + 1 => by
    have ih0 := ligatureref09_Parse.mono_l k
    · intro y0 y1 y2
      unfold ligatureref09_Parse.l0
      repeat' first
      | (with_reducible exact ih0 _ _ _)
      | (with_reducible exact ligatureref09_At.mono _ _ _)
      | (with_reducible exact LeO.refl _)
      | (with_reducible exact LeO.none _)
      | (with_reducible refine LeO.ite ?_ ?_)
      | (with_reducible refine LeO.bind ?_ (fun _ => ?_))
      | exact ih0 _ _ _
      | exact ligatureref09_At.mono _ _ _
      | exact LeO.none _
      | refine LeO.ite ?_ ?_
      | refine LeO.bind ?_ (fun _ => ?_)
theorem ligatureref09_Parse.mono : ∀ a0 a1 k, LeO (ligatureref09_Parse.f k a0 a1) (ligatureref09_Parse.f (k + 1) a0 a1) := by
  intro a0 a1 k
  have ih0 := ligatureref09_Parse.mono_l k
  unfold ligatureref09_Parse.f
  repeat' first
      | (with_reducible exact ih0 _ _ _)
      | (with_reducible exact ligatureref09_At.mono _ _ _)
      | (with_reducible exact LeO.refl _)
      | (with_reducible exact LeO.none _)
      | (with_reducible refine LeO.ite ?_ ?_)
      | (with_reducible refine LeO.bind ?_ (fun _ => ?_))
      | exact ih0 _ _ _
      | exact ligatureref09_At.mono _ _ _
      | exact LeO.none _
      | refine LeO.ite ?_ ?_
      | refine LeO.bind ?_ (fun _ => ?_)
set_option maxHeartbeats 8000000 in
set_option maxRecDepth 100000 in
theorem ligatureref09_Parse.calls (k : Nat) (A0 : Option Addr) (c0 : Nat) (l0 : List (S93)) (a1 : ByteArray) (r : List Int) (w : World) (hr0 : Kd.C k93 w A0 l0.length l0) (hc0 : l0.length ≤ c0) (h : ligatureref09_Parse.f k l0 a1 = some r) :
    Calls Tryz.prog 16 #[.slice A0 l0.length c0, .string a1] w fun e w' => ∃ v0_ : Value, e = .returned (v0_) ∧ Kd.R (Kd.int .i64) 3 w' w.heap.size (fun _ => True) v0_ r ∧ Below w.heap.size w w' := by
  have HR0 := Aside0.mk hr0
  have HC0 := Aside0.mk hc0
  clear hr0 hc0
  have HB := Aside0.mk (Below.refl w.heap.size w)
  have H : (ligatureref09_Parse.l0 k l0 a1 ([] : List Int)) = some r := h
  clear h
  have H' := Aside0.mk H
  clear H
  go_enter Tryz.func16, Tryz.ntmps16
  go_wp2
  go_loopg [1, 5] k (fun kq v1 v5 w' => ∃ (x1_1 : ByteArray) (x5_1 : List Int), v1 = .string x1_1 ∧ Aside0 (ligatureref09_Parse.l0 kq l0 x1_1 x5_1 = some r) ∧ Aside0 (kq ≤ k) ∧ Aside0 (Kd.R (Kd.int .i64) 3 w' w.heap.size (fun _ => True) v5 x5_1) ∧ Aside0 (Below w.heap.size w w'))
  case atStart => exact ⟨(a1), (([] : List Int)), (by first | rfl | (simp; done) | (simp [*]; done)), H', ⟨Nat.le_refl _⟩, ⟨by first | exact Kd.R_nil _ _ _ _ _ | exact Kd.N_nil _ _ _ _ _ | exact Kd.V_nil _ _ _ _ _ | exact Kd.Q_nil _ _ _ _ _ | exact Kd.S_nil _ _ _ _ _⟩, ⟨by repeat (first | (with_reducible first | exact HB.out | apply below_alloc | apply pw_below_drewN | apply below_drew1) | exact HB.out)⟩⟩
  case round =>
    clear H'
    try clear c1
    try clear p2
    obtain ⟨x1_1, x5_1, rfl, HA, HK1, HO_5, HB⟩ := hrel
    cases gk with
    | zero => exact absurd HA.out (by simp [ligatureref09_Parse.l0])
    | succ k1 =>
      have H := HA.out
      clear HA
      simp only [ligatureref09_Parse.l0] at H
      by_cases c3 : (x1_1.size : Int) > 0
      · rw [if_pos c3] at H
        have c3b0 : decide (0 < (x1_1.size : Int)) = true := decide_eq_true c3
        have c3b1 : decide (0 < x1_1.size) = true := decide_eq_true (by omega)
        clear c3
        replace H := Option.bind_eq_some_iff.mp H
        obtain ⟨t296, A40, H⟩ := H
        replace H : (if t296 = 0 then (if 0 < (x1_1.size : Int) then (if x5_1.length < 17592186044416 then (if 1 ≤ (x1_1.size : Int) then (ligatureref09_Parse.l0 k1 l0 (x1_1.extract 1 x1_1.size) (x5_1 ++ [wrap64 (bt x1_1 0)])) else (none)) else (none)) else (none)) else (if x5_1.length < 17592186044416 then (if 0 ≤ (wrap64 ((-1) - t296)) then (if (wrap64 ((-1) - t296)) < (l0.length : Int) then (if 0 ≤ (((rd_T93 l0 (wrap64 ((-1) - t296))).f1).size : Int) then (if (((rd_T93 l0 (wrap64 ((-1) - t296))).f1).size : Int) ≤ (x1_1.size : Int) then (ligatureref09_Parse.l0 k1 l0 (x1_1.extract ((((rd_T93 l0 (wrap64 ((-1) - t296))).f1).size : Int) : Int).toNat x1_1.size) (x5_1 ++ [t296])) else (none)) else (none)) else (none)) else (none)) else (none))) = some r := H
        have A4 := Aside0.mk A40
        clear A40
        by_cases c5 : t296 = 0
        · rw [if_pos c5] at H
          have c5b0 : (t296 == 0) = true := beq_iff_eq.mpr c5
          have c5b1 : (t296 != 0) = false := bne_eq_false_iff_eq.mpr c5
          clear c5
          by_cases c6 : 0 < (x1_1.size : Int)
          · rw [if_pos c6] at H
            have c6b0 : decide (0 < (x1_1.size : Int)) = true := decide_eq_true c6
            have c6b1 : decide (0 < x1_1.size) = true := decide_eq_true (by omega)
            clear c6
            by_cases c8 : x5_1.length < 17592186044416
            · rw [if_pos c8] at H
              have LMc8 := Aside0.mk c8
              clear c8
              obtain ⟨y297, hy297⟩ : ∃ y_ : List Int, y_ = (x5_1 ++ [wrap64 (bt x1_1 0)]) := ⟨_, rfl⟩
              replace H : (if 1 ≤ (x1_1.size : Int) then (ligatureref09_Parse.l0 k1 l0 (x1_1.extract 1 x1_1.size) y297) else (none)) = some r := by first | (rw [hy297]; with_reducible exact H) | (have H2_ := (Option.bind_some _ _).symm.trans H; rw [hy297]; with_reducible exact H2_) | (have H2_ := (Option.bind_some _ _).symm.trans H; with_reducible exact H2_) | with_reducible exact H | (rw [hy297]; exact H) | exact H
              have Ny297 := Aside0.mk hy297
              clear hy297
              by_cases c9 : 1 ≤ (x1_1.size : Int)
              · rw [if_pos c9] at H
                have c9b0 := eq_true c9
                have c9b1 : decide (1 ≤ (x1_1.size : Int)) = true := decide_eq_true c9
                clear c9
                have H' := Aside0.mk H
                clear H
                go_wp2_with (first | ((with_reducible refine gate_callee (f := 53) rfl ?_); refine goesL_ (some 12) rfl rfl Tryz.func53 (by kernel_rfl) rfl #[.slice A0 l0.length c0, .string x1_1] rfl (by (try simp only [List.map_toArray, List.map_cons, List.map_nil]); first | done | rfl | (simp only [List.length_drop, List.length_take]; rfl)) ?_; (with_reducible refine (ligatureref09_At.calls k1 _ _ l0 x1_1 t296 _ ?side1 ?side2 A4.out).mono ?_); (case side1 => repeat (first | exact (Kd.C_below HR0.out HB.out) | (with_reducible refine Kd.C_alloc ?_ _) | (with_reducible refine Kd.C_drewN ?_ _) | (with_reducible refine Kd.C_drew ?_))); (case side2 => exact HC0.out); rintro e w' ⟨rfl, ⟨nd, rfl⟩⟩; refine ⟨_, rfl, ?_⟩; have p7 : 0 ≤ (0 : Int) := (by omega); have q7 : 0 < x1_1.size := (by have : (0 : Int) < (x1_1.size : Int) := of_decide_eq_true (by first | (with_reducible assumption) | assumption); omega); have hx7 : ∀ h : 0 < x1_1.size, ((x1_1[0]'h).toNat : Int) = bt x1_1 0 := bt_at x1_1 0; clear p7; have qi7 : (0 < (x1_1.size : Int)) = True := eq_true (of_decide_eq_true (by first | (with_reducible assumption) | assumption)); replace q7 := eq_true q7) | ((with_reducible refine gate_builtin (b := .append) (xs := #[.tmp 15, .tmp 19]) rfl ?_); at_builtin; refine Kd.R_append (Kd.int .i64) (w0 := w) w.heap.size rfl (.tmp 15) (.tmp 19) 41 3 (.int .i64 0) 8 rfl Tryz.underlying41 info3 rfl (by decide) (by omega) u5 x5_1 (wrap64 (bt x1_1 0)) [.int .i64 (wrap64 (bt x1_1 0))] (fun _ => True) (fun _ => False) rfl rfl ?aP (fun _ hk => hk.elim) ?aF ?aO ?aB ?aS ?aL ?_; (case aP => exact rfl); (case aB => exact (by repeat (first | (with_reducible first | exact HB.out | apply below_alloc | apply pw_below_drewN | apply below_drew1) | exact HB.out))); (case aF => exact (fun _ _ => trivial)); (case aO => exact (by (with_reducible repeat (first | apply Kd.R_alloc | apply Kd.R_drewN | apply Kd.R_drew)); exact HO_5.out)); (case aS => exact (below_size (by repeat (first | (with_reducible first | exact HB.out | apply below_alloc | apply pw_below_drewN | apply below_drew1) | exact HB.out)))); (case aL => have := LMc8.out; omega); intro v298 w10 ho hb hg hat; rw [← Ny297.out] at ho; have n0_ := Aside0.mk (hb); have n1_ := Aside0.mk (ho); clear HB; clear HO_5; have HB := n0_; have HO299 := n1_; clear n0_ n1_; clear ho hb hg hat))
                go_roundg k1
                case measure => have := HK1.out; omega
                case rel => exact ⟨(x1_1.extract 1 x1_1.size), (y297), (by first | rfl | (simp; done) | (simp [*]; done)), H', ⟨by have := HK1.out; omega⟩, ⟨by (with_reducible repeat (first | apply Kd.R_alloc | apply Kd.R_drewN | apply Kd.R_drew)); exact HO299.out⟩, ⟨by repeat (first | (with_reducible first | exact HB.out | apply below_alloc | apply pw_below_drewN | apply below_drew1) | exact HB.out)⟩⟩
              · rw [if_neg c9] at H
                exact absurd H (by simp)
            · rw [if_neg c8] at H
              exact absurd H (by simp)
          · rw [if_neg c6] at H
            exact absurd H (by simp)
        · rw [if_neg c5] at H
          have c5b0 : (t296 == 0) = false := beq_eq_false_iff_ne.mpr c5
          have c5b1 : (t296 != 0) = true := bne_iff_ne.mpr c5
          by_cases c11 : x5_1.length < 17592186044416
          · rw [if_pos c11] at H
            have LMc11 := Aside0.mk c11
            clear c11
            obtain ⟨y300, hy300⟩ : ∃ y_ : List Int, y_ = (x5_1 ++ [t296]) := ⟨_, rfl⟩
            replace H : (if 0 ≤ (wrap64 ((-1) - t296)) then (if (wrap64 ((-1) - t296)) < (l0.length : Int) then (if 0 ≤ (((rd_T93 l0 (wrap64 ((-1) - t296))).f1).size : Int) then (if (((rd_T93 l0 (wrap64 ((-1) - t296))).f1).size : Int) ≤ (x1_1.size : Int) then (ligatureref09_Parse.l0 k1 l0 (x1_1.extract ((((rd_T93 l0 (wrap64 ((-1) - t296))).f1).size : Int) : Int).toNat x1_1.size) y300) else (none)) else (none)) else (none)) else (none)) = some r := by first | (rw [hy300]; with_reducible exact H) | (have H2_ := (Option.bind_some _ _).symm.trans H; rw [hy300]; with_reducible exact H2_) | (have H2_ := (Option.bind_some _ _).symm.trans H; with_reducible exact H2_) | with_reducible exact H | (rw [hy300]; exact H) | exact H
            have Ny300 := Aside0.mk hy300
            clear hy300
            obtain ⟨ji12, hji12⟩ : ∃ j_ : Int, (wrap64 ((-1) - t296)) = j_ := ⟨_, rfl⟩
            replace H : (if 0 ≤ (ji12) then (if (ji12) < (l0.length : Int) then (if 0 ≤ (((rd_T93 l0 (ji12)).f1).size : Int) then (if (((rd_T93 l0 (ji12)).f1).size : Int) ≤ (x1_1.size : Int) then (ligatureref09_Parse.l0 k1 l0 (x1_1.extract ((((rd_T93 l0 (ji12)).f1).size : Int) : Int).toNat x1_1.size) y300) else (none)) else (none)) else (none)) else (none)) = some r := by first | (rw [hji12] at H; exact H) | (simp only [hji12] at H ⊢; exact H)
            (try rw [hji12] at A4)
            have hji12w : (IntKind.i64.wrap ((-1) - t296)) = ji12 := (i64_w _).trans hji12
            by_cases c13 : 0 ≤ (ji12)
            · rw [if_pos c13] at H
              have c13b0 : decide (0 ≤ (ji12)) = true := decide_eq_true c13
              clear c13
              by_cases c14 : (ji12) < (l0.length : Int)
              · rw [if_pos c14] at H
                have c14b0 : decide ((ji12) < (l0.length : Int)) = true := decide_eq_true c14
                clear c14
                by_cases c15 : 0 ≤ (((rd_T93 l0 (ji12)).f1).size : Int)
                · rw [if_pos c15] at H
                  have c15b0 := eq_true c15
                  have c15b1 : decide (0 ≤ (((rd_T93 l0 (ji12)).f1).size : Int)) = true := decide_eq_true c15
                  clear c15
                  by_cases c16 : (((rd_T93 l0 (ji12)).f1).size : Int) ≤ (x1_1.size : Int)
                  · rw [if_pos c16] at H
                    have c16b0 := eq_true c16
                    have c16b1 : decide ((((rd_T93 l0 (ji12)).f1).size : Int) ≤ (x1_1.size : Int)) = true := decide_eq_true c16
                    clear c16
                    have H' := Aside0.mk H
                    clear H
                    go_wp2_with (first | ((with_reducible refine gate_callee (f := 53) rfl ?_); refine goesL_ (some 12) rfl rfl Tryz.func53 (by kernel_rfl) rfl #[.slice A0 l0.length c0, .string x1_1] rfl (by (try simp only [List.map_toArray, List.map_cons, List.map_nil]); first | done | rfl | (simp only [List.length_drop, List.length_take]; rfl)) ?_; (with_reducible refine (ligatureref09_At.calls k1 _ _ l0 x1_1 t296 _ ?side1 ?side2 A4.out).mono ?_); (case side1 => repeat (first | exact (Kd.C_below HR0.out HB.out) | (with_reducible refine Kd.C_alloc ?_ _) | (with_reducible refine Kd.C_drewN ?_ _) | (with_reducible refine Kd.C_drew ?_))); (case side2 => exact HC0.out); rintro e w' ⟨rfl, ⟨nd, rfl⟩⟩; refine ⟨_, rfl, ?_⟩) | ((with_reducible refine gate_builtin (b := .append) (xs := #[.tmp 23, .tmp 25]) rfl ?_); at_builtin; refine Kd.R_append (Kd.int .i64) (w0 := w) w.heap.size rfl (.tmp 23) (.tmp 25) 41 3 (.int .i64 0) 8 rfl Tryz.underlying41 info3 rfl (by decide) (by omega) u5 x5_1 t296 [.int .i64 t296] (fun _ => True) (fun _ => False) rfl rfl ?aP (fun _ hk => hk.elim) ?aF ?aO ?aB ?aS ?aL ?_; (case aP => exact rfl); (case aB => exact (by repeat (first | (with_reducible first | exact HB.out | apply below_alloc | apply pw_below_drewN | apply below_drew1) | exact HB.out))); (case aF => exact (fun _ _ => trivial)); (case aO => exact (by (with_reducible repeat (first | apply Kd.R_alloc | apply Kd.R_drewN | apply Kd.R_drew)); exact HO_5.out)); (case aS => exact (below_size (by repeat (first | (with_reducible first | exact HB.out | apply below_alloc | apply pw_below_drewN | apply below_drew1) | exact HB.out)))); (case aL => have := LMc11.out; omega); intro v301 w17 ho hb hg hat; rw [← Ny300.out] at ho; have n0_ := Aside0.mk (hb); have n1_ := Aside0.mk (ho); clear HB; clear HO_5; have HB := n0_; have HO302 := n1_; clear n0_ n1_; clear ho hb hg hat; have p303 : 0 ≤ ((ji12) : Int) := of_decide_eq_true (by first | (with_reducible assumption) | assumption); have q303 : (ji12) < (l0.length : Int) := of_decide_eq_true (by first | (with_reducible assumption) | assumption); obtain ⟨ad303, e303, hx303_0, hx303_1⟩ := at_T93 HR0.out (ji12) p303 q303; cases e303; replace hx303_0 := (HB.out.cell (World.block_lt_of_cell? w _ hx303_0)).trans hx303_0; replace hx303_1 := (HB.out.cell (World.block_lt_of_cell? w _ hx303_1)).trans hx303_1; replace p303 := eq_true p303; replace q303 := eq_true q303))
                    go_roundg k1
                    case measure => have := HK1.out; omega
                    case rel => exact ⟨(x1_1.extract ((((rd_T93 l0 (ji12)).f1).size : Int) : Int).toNat x1_1.size), (y300), (by first | rfl | (simp; done) | (simp only [← hji12] <;> (first | rfl | simp)) | (simp [*]; done)), H', ⟨by have := HK1.out; omega⟩, ⟨by (with_reducible repeat (first | apply Kd.R_alloc | apply Kd.R_drewN | apply Kd.R_drew)); exact HO302.out⟩, ⟨by repeat (first | (with_reducible first | exact HB.out | apply below_alloc | apply pw_below_drewN | apply below_drew1) | exact HB.out)⟩⟩
                  · rw [if_neg c16] at H
                    exact absurd H (by simp)
                · rw [if_neg c15] at H
                  exact absurd H (by simp)
              · rw [if_neg c14] at H
                exact absurd H (by simp)
            · rw [if_neg c13] at H
              exact absurd H (by simp)
          · rw [if_neg c11] at H
            exact absurd H (by simp)
      · rw [if_neg c3] at H
        have c3b0 : decide (0 < (x1_1.size : Int)) = false := decide_eq_false c3
        have c3b1 : decide (0 < x1_1.size) = false := decide_eq_false (by omega)
        clear c3
        obtain rfl := Option.some.inj H
        go_wp2
        go_ret
        exact ⟨_, by first | rfl | (simp [errW_none, errW_some] <;> rfl) | (simp [*, errW_none, errW_some] <;> rfl), by (with_reducible repeat (first | apply Kd.R_alloc | apply Kd.R_drewN | apply Kd.R_drew)); exact HO_5.out, by repeat (first | (with_reducible first | exact HB.out | apply below_alloc | apply pw_below_drewN | apply below_drew1) | exact HB.out)⟩

-- NOT PRINTED: function 59 (slices_IndexFunc_int_int)

-- NOT PRINTED: function 54 (slices_ContainsFunc_int_int)

-- NOT PRINTED: function 58 (slices_Clone_int_int)

-- NOT PRINTED: function 17 (encode_Pieces)

-- NOT PRINTED: function 18 (encode_Items)
end Go.Proofs.YtkffhgiiejbnaaaGreat.Rf
