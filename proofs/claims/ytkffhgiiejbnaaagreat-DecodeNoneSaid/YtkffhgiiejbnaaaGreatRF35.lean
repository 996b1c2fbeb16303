import Derived.Test.YtkffhgiiejbnaaaGreatRfx0
namespace Go.Proofs.YtkffhgiiejbnaaaGreat.Rf
open Go.RowKit Go.Proofs.YtkffhgiiejbnaaaGreatW.PrintWords Go.Proofs.YtkffhgiiejbnaaaGreatW.PrintLast Go.Proofs.YtkffhgiiejbnaaaGreatW.PrintMore
attribute [local go_sem] max2_int min2_int max_two min_two max_three min_three max_four min_four   -- for this text's walks alone
set_option linter.unusedVariables false
set_option linter.unusedSimpArgs false

-- NOT PRINTED: function 33 (decode_Text)

/-! ### ligatureref09_Render: function 35 -/
mutual
def ligatureref09_Render.l0 : Nat → List (S93) → List Int → List Int → Int → Option (ByteArray × Bool)
  | 0, _, _, _, _ => none
  | k + 1, x0, x1, x6, x7 => if x7 < (x1.length : Int) then (if 0 ≤ x7 then (if (rd x1 x7) ≥ 0 then (ligatureref09_Render.j1 k x0 x1 x6 x7 (decide ((rd x1 x7) < 256))) else (ligatureref09_Render.j1 k x0 x1 x6 x7 false)) else (none)) else (some (strOfNums x6, true))
def ligatureref09_Render.j1 : Nat → List (S93) → List Int → List Int → Int → Bool → Option (ByteArray × Bool)
  | 0, _, _, _, _, _ => none
  | k + 1, x0, x1, x6, x7, x14 => if x14 = true then (if 0 ≤ x7 then (if x7 < (x1.length : Int) then (if x6.length < 140737488355328 then (ligatureref09_Render.l0 k x0 x1 (x6 ++ [(rd x1 x7) % 256]) (wrap64 (x7 + 1))) else (none)) else (none)) else (none)) else (if 0 ≤ x7 then (if x7 < (x1.length : Int) then (if (rd x1 x7) < 0 then (if (rd x1 x7) ≥ (wrap64 (-(x0.length : Int))) then (if 0 ≤ (wrap64 ((-1) - (rd x1 x7))) then (if (wrap64 ((-1) - (rd x1 x7))) < (x0.length : Int) then (if x6.length + ((rd_T93 x0 (wrap64 ((-1) - (rd x1 x7)))).f1).size < 140737488355328 then (ligatureref09_Render.l0 k x0 x1 (x6 ++ bytesOf ((rd_T93 x0 (wrap64 ((-1) - (rd x1 x7)))).f1)) (wrap64 (x7 + 1))) else (none)) else (none)) else (none)) else (some ((⟨#[]⟩ : ByteArray), false))) else (some ((⟨#[]⟩ : ByteArray), false))) else (none)) else (none))
end
def ligatureref09_Render.f (k : Nat) (l0 : List (S93)) (l1 : List Int) : Option (ByteArray × Bool) := ligatureref09_Render.l0 k l0 l1 ([] : List Int) 0
theorem ligatureref09_Render.mono_l : ∀ k, (∀ y0 y1 y2 y3, LeO (ligatureref09_Render.l0 k y0 y1 y2 y3) (ligatureref09_Render.l0 (k + 1) y0 y1 y2 y3)) ∧ (∀ y0 y1 y2 y3 y4, LeO (ligatureref09_Render.j1 k y0 y1 y2 y3 y4) (ligatureref09_Render.j1 (k + 1) y0 y1 y2 y3 y4))
  | 0 => ⟨fun _ _ _ _ r h => by simp [ligatureref09_Render.l0] at h, fun _ _ _ _ _ r h => by simp [ligatureref09_Render.j1] at h⟩
  | k + 1 => by
    obtain ⟨ih0, ih1⟩ := ligatureref09_Render.mono_l k
    refine ⟨?_, ?_⟩
    · intro y0 y1 y2 y3
      unfold ligatureref09_Render.l0
      repeat' first
      | (with_reducible exact ih0 _ _ _ _)
      | (with_reducible exact ih1 _ _ _ _ _)
      | (with_reducible exact LeO.refl _)
      | (with_reducible exact LeO.none _)
      | (with_reducible refine LeO.ite ?_ ?_)
      | (with_reducible refine LeO.bind ?_ (fun _ => ?_))
      | exact ih0 _ _ _ _
      | exact ih1 _ _ _ _ _
      | exact LeO.none _
      | refine LeO.ite ?_ ?_
      | refine LeO.bind ?_ (fun _ => ?_)
    · intro y0 y1 y2 y3 y4
      unfold ligatureref09_Render.j1
      repeat' first
      | (with_reducible exact ih0 _ _ _ _)
      | (with_reducible exact ih1 _ _ _ _ _)
      | (with_reducible exact LeO.refl _)
      | (with_reducible exact LeO.none _)
      | (with_reducible refine LeO.ite ?_ ?_)
      | (with_reducible refine LeO.bind ?_ (fun _ => ?_))
      | exact ih0 _ _ _ _
      | exact ih1 _ _ _ _ _
      | exact LeO.none _
      | refine LeO.ite ?_ ?_
      | refine LeO.bind ?_ (fun _ => ?_)
theorem ligatureref09_Render.mono : ∀ a0 a1 k, LeO (ligatureref09_Render.f k a0 a1) (ligatureref09_Render.f (k + 1) a0 a1) := by
  intro a0 a1 k
  obtain ⟨ih0, ih1⟩ := ligatureref09_Render.mono_l k
  unfold ligatureref09_Render.f
  repeat' first
      | (with_reducible exact ih0 _ _ _ _)
      | (with_reducible exact ih1 _ _ _ _ _)
      | (with_reducible exact LeO.refl _)
      | (with_reducible exact LeO.none _)
      | (with_reducible refine LeO.ite ?_ ?_)
      | (with_reducible refine LeO.bind ?_ (fun _ => ?_))
      | exact ih0 _ _ _ _
      | exact ih1 _ _ _ _ _
      | exact LeO.none _
      | refine LeO.ite ?_ ?_
      | refine LeO.bind ?_ (fun _ => ?_)
set_option maxHeartbeats 8000000 in
set_option maxRecDepth 100000 in
theorem ligatureref09_Render.calls (k : Nat) (A0 : Option Addr) (c0 : Nat) (l0 : List (S93)) (A1 : Option Addr) (c1 : Nat) (l1 : List Int) (r1 : ByteArray) (r2 : Bool) (w : World) (hr0 : Kd.C k93 w A0 l0.length l0) (hc0 : l0.length ≤ c0) (hr1 : Kd.C (Kd.int .i64) w A1 l1.length l1) (hc1 : l1.length ≤ c1) (h : ligatureref09_Render.f k l0 l1 = some (r1, r2)) :
    Calls Tryz.prog 35 #[.slice A0 l0.length c0, .slice A1 l1.length c1] w fun e w' => e = .returned (.tuple #[.string r1, .bool r2]) ∧ Below w.heap.size w w' := by
  have HR0 := Aside0.mk hr0
  have HC0 := Aside0.mk hc0
  clear hr0 hc0
  have HR1 := Aside0.mk hr1
  have HC1 := Aside0.mk hc1
  clear hr1 hc1
  have HB := Aside0.mk (Below.refl w.heap.size w)
  have H : (ligatureref09_Render.l0 k l0 l1 ([] : List Int) 0) = some (r1, r2) := h
  clear h
  have H' := Aside0.mk H
  clear H
  go_enter Tryz.func35, Tryz.ntmps35
  go_wp2
  go_loopg [6, 7] k (fun kq v6 v7 w' => ∃ (x6_1 : List Int) (x7_1 : Int), v7 = .int .i64 x7_1 ∧ Aside0 (ligatureref09_Render.l0 kq l0 l1 x6_1 x7_1 = some (r1, r2)) ∧ Aside0 (kq ≤ k) ∧ Aside0 (Kd.R (Kd.int .u8) 5 w' w.heap.size (fun _ => True) v6 x6_1) ∧ Aside0 (Below w.heap.size w w'))
  case atStart => exact ⟨(([] : List Int)), (0), (by first | rfl | (simp; done) | (simp [*]; done)), H', ⟨Nat.le_refl _⟩, ⟨by first | exact Kd.R_nil _ _ _ _ _ | exact Kd.N_nil _ _ _ _ _ | exact Kd.V_nil _ _ _ _ _ | exact Kd.Q_nil _ _ _ _ _ | exact Kd.S_nil _ _ _ _ _⟩, ⟨by repeat (first | (with_reducible first | exact HB.out | apply below_alloc | apply pw_below_drewN | apply below_drew1) | exact HB.out)⟩⟩
  case round =>
    clear H'
    try clear c1
    try clear p2
    obtain ⟨x6_1, x7_1, rfl, HA, HK1, HO_6, HB⟩ := hrel
    cases gk with
    | zero => exact absurd HA.out (by simp [ligatureref09_Render.l0])
    | succ k1 =>
      have H := HA.out
      clear HA
      simp only [ligatureref09_Render.l0] at H
      by_cases c3 : x7_1 < (l1.length : Int)
      · rw [if_pos c3] at H
        have c3b0 : decide (x7_1 < (l1.length : Int)) = true := decide_eq_true c3
        clear c3
        have HC4 := Aside0.mk H
        clear H
        go_upto_region 6 with (fail)
        go_cut [14] (fun v14 wc => ∃ (kq : Nat) (x14_3 : Bool), v14 = .bool x14_3 ∧ Aside0 (ligatureref09_Render.j1 kq l0 l1 x6_1 x7_1 x14_3 = some (r1, r2)) ∧ Aside0 (kq ≤ k1) ∧ Aside0 (Kd.R (Kd.int .u8) 5 wc w.heap.size (fun _ => True) u6 x6_1) ∧ Aside0 (Below w.heap.size w wc))
        case first =>
          have H := HC4.out
          clear HC4
          by_cases c5 : 0 ≤ x7_1
          · rw [if_pos c5] at H
            have c5b0 : decide (0 ≤ x7_1) = true := decide_eq_true c5
            clear c5
            (first | rw [c5b0] | (simp only [i64_w, i32_w]; rw [c5b0]) | skip)
            by_cases c6 : (rd l1 x7_1) ≥ 0
            · rw [if_pos c6] at H
              have c6b0 : decide (0 ≤ (rd l1 x7_1)) = true := decide_eq_true c6
              clear c6
              have H' := Aside0.mk H
              clear H
              have p370 : 0 ≤ (x7_1 : Int) := of_decide_eq_true (by first | (with_reducible assumption) | assumption)
              have q370 : x7_1 < (l1.length : Int) := of_decide_eq_true (by first | (with_reducible assumption) | assumption)
              obtain ⟨ad370, e370, hx370_0⟩ := Kd.at_int HR1.out x7_1 p370 q370
              cases e370
              replace hx370_0 := (HB.out.cell (World.block_lt_of_cell? w _ hx370_0)).trans hx370_0
              replace p370 := eq_true p370
              replace q370 := eq_true q370
              have p371 : 0 ≤ (x7_1 : Int) := of_decide_eq_true (by first | (with_reducible assumption) | assumption)
              have q371 : x7_1 < (l1.length : Int) := of_decide_eq_true (by first | (with_reducible assumption) | assumption)
              obtain ⟨ad371, e371, hx371_0⟩ := Kd.at_int HR1.out x7_1 p371 q371
              obtain rfl : ad370 = ad371 := (by injection e371)
              replace hx371_0 := (HB.out.cell (World.block_lt_of_cell? w _ hx371_0)).trans hx371_0
              replace p371 := eq_true p371
              replace q371 := eq_true q371
              go_wp2
              go_meet
              case rel => exact ⟨_, (decide ((rd l1 x7_1) < 256)), (by first | rfl | (simp; done) | (simp [*]; done)), H', ⟨by have := HK1.out; first | omega | exact Nat.le_refl _⟩, ⟨by (with_reducible repeat (first | apply Kd.R_alloc | apply Kd.R_drewN | apply Kd.R_drew)); exact HO_6.out⟩, ⟨by repeat (first | (with_reducible first | exact HB.out | apply below_alloc | apply pw_below_drewN | apply below_drew1) | exact HB.out)⟩⟩
            · rw [if_neg c6] at H
              have c6b0 : decide (0 ≤ (rd l1 x7_1)) = false := decide_eq_false c6
              clear c6
              have H' := Aside0.mk H
              clear H
              have p370 : 0 ≤ (x7_1 : Int) := of_decide_eq_true (by first | (with_reducible assumption) | assumption)
              have q370 : x7_1 < (l1.length : Int) := of_decide_eq_true (by first | (with_reducible assumption) | assumption)
              obtain ⟨ad370, e370, hx370_0⟩ := Kd.at_int HR1.out x7_1 p370 q370
              cases e370
              replace hx370_0 := (HB.out.cell (World.block_lt_of_cell? w _ hx370_0)).trans hx370_0
              replace p370 := eq_true p370
              replace q370 := eq_true q370
              go_wp2
              go_meet
              case rel => exact ⟨_, (false), (by first | rfl | (simp; done) | (simp [*]; done)), H', ⟨by have := HK1.out; first | omega | exact Nat.le_refl _⟩, ⟨by (with_reducible repeat (first | apply Kd.R_alloc | apply Kd.R_drewN | apply Kd.R_drew)); exact HO_6.out⟩, ⟨by repeat (first | (with_reducible first | exact HB.out | apply below_alloc | apply pw_below_drewN | apply below_drew1) | exact HB.out)⟩⟩
          · rw [if_neg c5] at H
            exact absurd H (by simp)
        case rest =>
          clear HC4
          try clear c1
          try clear p2
          try clear c3
          try clear c3b0
          try clear p3
          try clear q3
          try clear hx3
          try clear c5
          try clear c5b0
          try clear c6
          try clear c6b0
          try clear hx370_0
          try clear hx371_0
          try clear p2
          try clear p370
          try clear p371
          try clear q370
          try clear q371
          obtain ⟨kq, x14_3, rfl, HA, HJ3, HO_6, HB⟩ := hcut
          cases kq with
          | zero => exact absurd HA.out (by simp [ligatureref09_Render.j1])
          | succ kj3 =>
            have H := HA.out
            clear HA
            simp only [ligatureref09_Render.j1] at H
            by_cases c7 : x14_3 = true
            · subst c7
              have H1 : (if 0 ≤ x7_1 then (if x7_1 < (l1.length : Int) then (if x6_1.length < 140737488355328 then (ligatureref09_Render.l0 kj3 l0 l1 (x6_1 ++ [(rd l1 x7_1) % 256]) (wrap64 (x7_1 + 1))) else (none)) else (none)) else (none)) = some (r1, r2) := by rw [if_pos rfl] at H; exact H
              clear H
              have H := H1
              clear H1
              by_cases c8 : 0 ≤ x7_1
              · rw [if_pos c8] at H
                have c8b0 : decide (0 ≤ x7_1) = true := decide_eq_true c8
                clear c8
                by_cases c9 : x7_1 < (l1.length : Int)
                · rw [if_pos c9] at H
                  have c9b0 : decide (x7_1 < (l1.length : Int)) = true := decide_eq_true c9
                  clear c9
                  by_cases c10 : x6_1.length < 140737488355328
                  · rw [if_pos c10] at H
                    have LMc10 := Aside0.mk c10
                    clear c10
                    obtain ⟨y373, hy373⟩ : ∃ y_ : List Int, y_ = (x6_1 ++ [(rd l1 x7_1) % 256]) := ⟨_, rfl⟩
                    replace H : (ligatureref09_Render.l0 kj3 l0 l1 y373 (wrap64 (x7_1 + 1))) = some (r1, r2) := by first | (rw [hy373]; with_reducible exact H) | (have H2_ := (Option.bind_some _ _).symm.trans H; rw [hy373]; with_reducible exact H2_) | (have H2_ := (Option.bind_some _ _).symm.trans H; with_reducible exact H2_) | with_reducible exact H | (rw [hy373]; exact H) | exact H
                    have Ny373 := Aside0.mk hy373
                    clear hy373
                    have H' := Aside0.mk H
                    clear H
                    have p372 : 0 ≤ (x7_1 : Int) := of_decide_eq_true (by first | (with_reducible assumption) | assumption)
                    have q372 : x7_1 < (l1.length : Int) := of_decide_eq_true (by first | (with_reducible assumption) | assumption)
                    obtain ⟨ad372, e372, hx372_0⟩ := Kd.at_int HR1.out x7_1 p372 q372
                    cases e372
                    replace hx372_0 := (HB.out.cell (World.block_lt_of_cell? w _ hx372_0)).trans hx372_0
                    replace p372 := eq_true p372
                    replace q372 := eq_true q372
                    go_wp2_with (first | ((with_reducible refine gate_builtin (b := .append) (xs := #[.tmp 27, .tmp 33]) rfl ?_); (try (refine gate_guard (by rfl) ?_; dsimp only)); at_builtin; refine Kd.R_append (Kd.int .u8) (w0 := w) w.heap.size rfl (.tmp 27) (.tmp 33) 109 5 (.int .u8 0) 1 rfl Tryz.underlying109 info5 rfl (by decide) (by omega) u6 x6_1 ((rd l1 x7_1) % 256) [.int .u8 ((rd l1 x7_1) % 256)] (fun _ => True) (fun _ => False) rfl rfl ?aP (fun _ hk => hk.elim) ?aF ?aO ?aB ?aS ?aL ?_; (case aP => exact rfl); (case aB => exact (by repeat (first | (with_reducible first | exact HB.out | apply below_alloc | apply pw_below_drewN | apply below_drew1) | exact HB.out))); (case aF => exact (fun _ _ => trivial)); (case aO => exact (by (with_reducible repeat (first | apply Kd.R_alloc | apply Kd.R_drewN | apply Kd.R_drew)); exact HO_6.out)); (case aS => exact (below_size (by repeat (first | (with_reducible first | exact HB.out | apply below_alloc | apply pw_below_drewN | apply below_drew1) | exact HB.out)))); (case aL => have := LMc10.out; omega); intro v374 w11 ho hb hg hat; rw [← Ny373.out] at ho; have n0_ := Aside0.mk (hb); have n1_ := Aside0.mk (ho); clear HB; clear HO_6; have HB := n0_; have HO375 := n1_; clear n0_ n1_; clear ho hb hg hat))
                    go_roundg kj3
                    case measure => have := HK1.out; have := HJ3.out; omega
                    case rel => exact ⟨(y373), (wrap64 (x7_1 + 1)), (by first | rfl | (simp; done) | (simp [*]; done)), H', ⟨by have := HK1.out; have := HJ3.out; omega⟩, ⟨by (with_reducible repeat (first | apply Kd.R_alloc | apply Kd.R_drewN | apply Kd.R_drew)); exact HO375.out⟩, ⟨by repeat (first | (with_reducible first | exact HB.out | apply below_alloc | apply pw_below_drewN | apply below_drew1) | exact HB.out)⟩⟩
                  · rw [if_neg c10] at H
                    exact absurd H (by simp)
                · rw [if_neg c9] at H
                  exact absurd H (by simp)
              · rw [if_neg c8] at H
                exact absurd H (by simp)
            · replace c7 := Bool.eq_false_iff.mpr c7
              subst c7
              have H1 : (if 0 ≤ x7_1 then (if x7_1 < (l1.length : Int) then (if (rd l1 x7_1) < 0 then (if (rd l1 x7_1) ≥ (wrap64 (-(l0.length : Int))) then (if 0 ≤ (wrap64 ((-1) - (rd l1 x7_1))) then (if (wrap64 ((-1) - (rd l1 x7_1))) < (l0.length : Int) then (if x6_1.length + ((rd_T93 l0 (wrap64 ((-1) - (rd l1 x7_1)))).f1).size < 140737488355328 then (ligatureref09_Render.l0 kj3 l0 l1 (x6_1 ++ bytesOf ((rd_T93 l0 (wrap64 ((-1) - (rd l1 x7_1)))).f1)) (wrap64 (x7_1 + 1))) else (none)) else (none)) else (none)) else (some ((⟨#[]⟩ : ByteArray), false))) else (some ((⟨#[]⟩ : ByteArray), false))) else (none)) else (none)) = some (r1, r2) := by rw [if_neg (show ¬ (false = true) by decide)] at H; exact H
              clear H
              have H := H1
              clear H1
              by_cases c12 : 0 ≤ x7_1
              · rw [if_pos c12] at H
                have c12b0 : decide (0 ≤ x7_1) = true := decide_eq_true c12
                clear c12
                by_cases c13 : x7_1 < (l1.length : Int)
                · rw [if_pos c13] at H
                  have c13b0 : decide (x7_1 < (l1.length : Int)) = true := decide_eq_true c13
                  clear c13
                  by_cases c14 : (rd l1 x7_1) < 0
                  · rw [if_pos c14] at H
                    have c14b0 : decide ((rd l1 x7_1) < 0) = true := decide_eq_true c14
                    clear c14
                    by_cases c15 : (rd l1 x7_1) ≥ (wrap64 (-(l0.length : Int)))
                    · rw [if_pos c15] at H
                      have c15b0 : decide ((wrap64 (-(l0.length : Int))) ≤ (rd l1 x7_1)) = true := decide_eq_true c15
                      clear c15
                      obtain ⟨ji16, hji16⟩ : ∃ j_ : Int, (wrap64 ((-1) - (rd l1 x7_1))) = j_ := ⟨_, rfl⟩
                      replace H : (if 0 ≤ (ji16) then (if (ji16) < (l0.length : Int) then (if x6_1.length + ((rd_T93 l0 (ji16)).f1).size < 140737488355328 then (ligatureref09_Render.l0 kj3 l0 l1 (x6_1 ++ bytesOf ((rd_T93 l0 (ji16)).f1)) (wrap64 (x7_1 + 1))) else (none)) else (none)) else (none)) = some (r1, r2) := by first | (rw [hji16] at H; exact H) | (simp only [hji16] at H ⊢; exact H)
                      have hji16w : (IntKind.i64.wrap ((-1) - (rd l1 x7_1))) = ji16 := (i64_w _).trans hji16
                      by_cases c17 : 0 ≤ (ji16)
                      · rw [if_pos c17] at H
                        have c17b0 : decide (0 ≤ (ji16)) = true := decide_eq_true c17
                        clear c17
                        by_cases c18 : (ji16) < (l0.length : Int)
                        · rw [if_pos c18] at H
                          have c18b0 : decide ((ji16) < (l0.length : Int)) = true := decide_eq_true c18
                          clear c18
                          by_cases c19 : x6_1.length + ((rd_T93 l0 (ji16)).f1).size < 140737488355328
                          · rw [if_pos c19] at H
                            have LMc19 := Aside0.mk c19
                            clear c19
                            obtain ⟨y380, hy380⟩ : ∃ y_ : List Int, y_ = (x6_1 ++ bytesOf ((rd_T93 l0 (ji16)).f1)) := ⟨_, rfl⟩
                            replace H : (ligatureref09_Render.l0 kj3 l0 l1 y380 (wrap64 (x7_1 + 1))) = some (r1, r2) := by first | (rw [hy380]; with_reducible exact H) | (have H2_ := (Option.bind_some _ _).symm.trans H; rw [hy380]; with_reducible exact H2_) | (have H2_ := (Option.bind_some _ _).symm.trans H; with_reducible exact H2_) | with_reducible exact H | (rw [hy380]; exact H) | exact H
                            have Ny380 := Aside0.mk hy380
                            clear hy380
                            have H' := Aside0.mk H
                            clear H
                            have p376 : 0 ≤ (x7_1 : Int) := of_decide_eq_true (by first | (with_reducible assumption) | assumption)
                            have q376 : x7_1 < (l1.length : Int) := of_decide_eq_true (by first | (with_reducible assumption) | assumption)
                            obtain ⟨ad376, e376, hx376_0⟩ := Kd.at_int HR1.out x7_1 p376 q376
                            cases e376
                            replace hx376_0 := (HB.out.cell (World.block_lt_of_cell? w _ hx376_0)).trans hx376_0
                            replace p376 := eq_true p376
                            replace q376 := eq_true q376
                            have p377 : 0 ≤ (x7_1 : Int) := of_decide_eq_true (by first | (with_reducible assumption) | assumption)
                            have q377 : x7_1 < (l1.length : Int) := of_decide_eq_true (by first | (with_reducible assumption) | assumption)
                            obtain ⟨ad377, e377, hx377_0⟩ := Kd.at_int HR1.out x7_1 p377 q377
                            obtain rfl : ad376 = ad377 := (by injection e377)
                            replace hx377_0 := (HB.out.cell (World.block_lt_of_cell? w _ hx377_0)).trans hx377_0
                            replace p377 := eq_true p377
                            replace q377 := eq_true q377
                            have p378 : 0 ≤ (x7_1 : Int) := of_decide_eq_true (by first | (with_reducible assumption) | assumption)
                            have q378 : x7_1 < (l1.length : Int) := of_decide_eq_true (by first | (with_reducible assumption) | assumption)
                            obtain ⟨ad378, e378, hx378_0⟩ := Kd.at_int HR1.out x7_1 p378 q378
                            obtain rfl : ad376 = ad378 := (by injection e378)
                            replace hx378_0 := (HB.out.cell (World.block_lt_of_cell? w _ hx378_0)).trans hx378_0
                            replace p378 := eq_true p378
                            replace q378 := eq_true q378
                            have p379 : 0 ≤ ((ji16) : Int) := of_decide_eq_true (by first | (with_reducible assumption) | assumption)
                            have q379 : (ji16) < (l0.length : Int) := of_decide_eq_true (by first | (with_reducible assumption) | assumption)
                            obtain ⟨ad379, e379, hx379_0, hx379_1⟩ := at_T93 HR0.out (ji16) p379 q379
                            cases e379
                            replace hx379_0 := (HB.out.cell (World.block_lt_of_cell? w _ hx379_0)).trans hx379_0
                            replace hx379_1 := (HB.out.cell (World.block_lt_of_cell? w _ hx379_1)).trans hx379_1
                            replace p379 := eq_true p379
                            replace q379 := eq_true q379
                            go_wp2_with (first | (at_builtin; refine print_append_str (w0 := w) w.heap.size rfl (.tmp 51) _ 109 9 5 rfl Tryz.underlying109 Tryz.underlying9 info5 u6 x6_1 ((rd_T93 l0 (ji16)).f1) rfl rfl ?aO ?aB ?aS ?aL ?_; (case aB => exact (by repeat (first | (with_reducible first | exact HB.out | apply below_alloc | apply pw_below_drewN | apply below_drew1) | exact HB.out))); (case aO => exact (Kd.own_of_R (by (with_reducible repeat (first | apply Kd.R_alloc | apply Kd.R_drewN | apply Kd.R_drew)); exact HO_6.out))); (case aS => exact (below_size (by repeat (first | (with_reducible first | exact HB.out | apply below_alloc | apply pw_below_drewN | apply below_drew1) | exact HB.out)))); (case aL => have := LMc19.out; omega); intro v381 w20 ho0 hb hg; have ho := Kd.R_of_own (h1 := fun _ => rfl) (ok := fun _ => True) ho0 (fun _ _ => trivial); clear ho0; have hat := True.intro; rw [← Ny380.out] at ho; change Kd.R (Kd.int .u8) 5 w20 w.heap.size (fun _ => True) v381 y380 at ho; have n0_ := Aside0.mk (hb); have n1_ := Aside0.mk (ho); clear HB; clear HO_6; have HB := n0_; have HO382 := n1_; clear n0_ n1_; clear ho hb hg hat))
                            go_roundg kj3
                            case measure => have := HK1.out; have := HJ3.out; omega
                            case rel => exact ⟨(y380), (wrap64 (x7_1 + 1)), (by first | rfl | (simp; done) | (simp [*]; done)), H', ⟨by have := HK1.out; have := HJ3.out; omega⟩, ⟨by (with_reducible repeat (first | apply Kd.R_alloc | apply Kd.R_drewN | apply Kd.R_drew)); exact HO382.out⟩, ⟨by repeat (first | (with_reducible first | exact HB.out | apply below_alloc | apply pw_below_drewN | apply below_drew1) | exact HB.out)⟩⟩
                          · rw [if_neg c19] at H
                            exact absurd H (by simp)
                        · rw [if_neg c18] at H
                          exact absurd H (by simp)
                      · rw [if_neg c17] at H
                        exact absurd H (by simp)
                    · rw [if_neg c15] at H
                      have c15b0 : decide ((wrap64 (-(l0.length : Int))) ≤ (rd l1 x7_1)) = false := decide_eq_false c15
                      clear c15
                      simp only [Option.some.injEq, Prod.mk.injEq] at H
                      obtain ⟨rfl, rfl⟩ := H
                      have p376 : 0 ≤ (x7_1 : Int) := of_decide_eq_true (by first | (with_reducible assumption) | assumption)
                      have q376 : x7_1 < (l1.length : Int) := of_decide_eq_true (by first | (with_reducible assumption) | assumption)
                      obtain ⟨ad376, e376, hx376_0⟩ := Kd.at_int HR1.out x7_1 p376 q376
                      cases e376
                      replace hx376_0 := (HB.out.cell (World.block_lt_of_cell? w _ hx376_0)).trans hx376_0
                      replace p376 := eq_true p376
                      replace q376 := eq_true q376
                      have p377 : 0 ≤ (x7_1 : Int) := of_decide_eq_true (by first | (with_reducible assumption) | assumption)
                      have q377 : x7_1 < (l1.length : Int) := of_decide_eq_true (by first | (with_reducible assumption) | assumption)
                      obtain ⟨ad377, e377, hx377_0⟩ := Kd.at_int HR1.out x7_1 p377 q377
                      obtain rfl : ad376 = ad377 := (by injection e377)
                      replace hx377_0 := (HB.out.cell (World.block_lt_of_cell? w _ hx377_0)).trans hx377_0
                      replace p377 := eq_true p377
                      replace q377 := eq_true q377
                      go_wp2
                      go_ret2
                      exact ⟨by first | rfl | (simp [errW_none, errW_some] <;> rfl) | (simp [*, errW_none, errW_some] <;> rfl), by repeat (first | (with_reducible first | exact HB.out | apply below_alloc | apply pw_below_drewN | apply below_drew1) | exact HB.out)⟩
                  · rw [if_neg c14] at H
                    have c14b0 : decide ((rd l1 x7_1) < 0) = false := decide_eq_false c14
                    clear c14
                    simp only [Option.some.injEq, Prod.mk.injEq] at H
                    obtain ⟨rfl, rfl⟩ := H
                    have p376 : 0 ≤ (x7_1 : Int) := of_decide_eq_true (by first | (with_reducible assumption) | assumption)
                    have q376 : x7_1 < (l1.length : Int) := of_decide_eq_true (by first | (with_reducible assumption) | assumption)
                    obtain ⟨ad376, e376, hx376_0⟩ := Kd.at_int HR1.out x7_1 p376 q376
                    cases e376
                    replace hx376_0 := (HB.out.cell (World.block_lt_of_cell? w _ hx376_0)).trans hx376_0
                    replace p376 := eq_true p376
                    replace q376 := eq_true q376
                    go_wp2
                    go_ret2
                    exact ⟨by first | rfl | (simp [errW_none, errW_some] <;> rfl) | (simp [*, errW_none, errW_some] <;> rfl), by repeat (first | (with_reducible first | exact HB.out | apply below_alloc | apply pw_below_drewN | apply below_drew1) | exact HB.out)⟩
                · rw [if_neg c13] at H
                  exact absurd H (by simp)
              · rw [if_neg c12] at H
                exact absurd H (by simp)
      · rw [if_neg c3] at H
        have c3b0 : decide (x7_1 < (l1.length : Int)) = false := decide_eq_false c3
        clear c3
        simp only [Option.some.injEq, Prod.mk.injEq] at H
        obtain ⟨rfl, rfl⟩ := H
        have hcv21 := own_string (P := Tryz.prog) Tryz.underlying109 Tryz.underlying5 Tryz.underlying9 (Kd.own_of_R HO_6.out)
        go_wp2
        go_ret2
        exact ⟨by first | rfl | (simp [errW_none, errW_some] <;> rfl) | (simp [*, errW_none, errW_some] <;> rfl), by repeat (first | (with_reducible first | exact HB.out | apply below_alloc | apply pw_below_drewN | apply below_drew1) | exact HB.out)⟩
end Go.Proofs.YtkffhgiiejbnaaaGreat.Rf
