import Derived.Test.YtkffhgiiejbnaaaGreatRfx0
import Derived.Test.YtkffhgiiejbnaaaGreatRF91
namespace Go.Proofs.YtkffhgiiejbnaaaGreat.Rf
open Go.RowKit Go.Proofs.YtkffhgiiejbnaaaGreatW.PrintWords Go.Proofs.YtkffhgiiejbnaaaGreatW.PrintLast Go.Proofs.YtkffhgiiejbnaaaGreatW.PrintMore
attribute [local go_sem] max2_int min2_int max_two min_two max_three min_three max_four min_four   -- for this text's walks alone
set_option linter.unusedVariables false
set_option linter.unusedSimpArgs false

/-! ### ligatureref09_At: function 53 -/
def ligatureref09_At.l0 : Nat → List (S93) → ByteArray → Int → Int → Option (Int)
  | 0, _, _, _, _ => none
  | k + 1, x0, x1, x5, x6 => if x6 < (x0.length : Int) then (if 0 ≤ x6 then ((ligatureref09_begins.f x1 ((rd_T93 x0 x6).f1)).bind fun t293 => (if t293 = true then (if x5 = 0 then (ligatureref09_At.l0 k x0 x1 (wrap64 ((-1) - x6)) (wrap64 (x6 + 1))) else (if 0 ≤ (wrap64 ((-1) - x5)) then (if (wrap64 ((-1) - x5)) < (x0.length : Int) then (if (((rd_T93 x0 x6).f1).size : Int) > (((rd_T93 x0 (wrap64 ((-1) - x5))).f1).size : Int) then (ligatureref09_At.l0 k x0 x1 (wrap64 ((-1) - x6)) (wrap64 (x6 + 1))) else (ligatureref09_At.l0 k x0 x1 x5 (wrap64 (x6 + 1)))) else (none)) else (none))) else (ligatureref09_At.l0 k x0 x1 x5 (wrap64 (x6 + 1))))) else (none)) else (some x5)
def ligatureref09_At.f (k : Nat) (l0 : List (S93)) (a1 : ByteArray) : Option (Int) := ligatureref09_At.l0 k l0 a1 0 0
theorem ligatureref09_At.mono_l : ∀ k, (∀ y0 y1 y2 y3, LeO (ligatureref09_At.l0 k y0 y1 y2 y3) (ligatureref09_At.l0 (k + 1) y0 y1 y2 y3))
  | 0 => fun _ _ _ _ r h => by simp [ligatureref09_At.l0] at h
  | k + 1 => by
    have ih0 := ligatureref09_At.mono_l k
    · intro y0 y1 y2 y3
      unfold ligatureref09_At.l0
      repeat' first
      | (with_reducible exact ih0 _ _ _ _)
      | (with_reducible exact LeO.refl _)
      | (with_reducible exact LeO.none _)
      | (with_reducible refine LeO.ite ?_ ?_)
      | (with_reducible refine LeO.bind ?_ (fun _ => ?_))
      | exact ih0 _ _ _ _
      | exact LeO.none _
      | refine LeO.ite ?_ ?_
      | refine LeO.bind ?_ (fun _ => ?_)
theorem ligatureref09_At.mono : ∀ a0 a1 k, LeO (ligatureref09_At.f k a0 a1) (ligatureref09_At.f (k + 1) a0 a1) := by
  intro a0 a1 k
  have ih0 := ligatureref09_At.mono_l k
  unfold ligatureref09_At.f
  repeat' first
      | (with_reducible exact ih0 _ _ _ _)
      | (with_reducible exact LeO.refl _)
      | (with_reducible exact LeO.none _)
      | (with_reducible refine LeO.ite ?_ ?_)
      | (with_reducible refine LeO.bind ?_ (fun _ => ?_))
      | exact ih0 _ _ _ _
      | exact LeO.none _
      | refine LeO.ite ?_ ?_
      | refine LeO.bind ?_ (fun _ => ?_)
set_option maxHeartbeats 8000000 in
set_option maxRecDepth 100000 in
theorem ligatureref09_At.calls (k : Nat) (A0 : Option Addr) (c0 : Nat) (l0 : List (S93)) (a1 : ByteArray) (r : Int) (w : World) (hr0 : Kd.C k93 w A0 l0.length l0) (hc0 : l0.length ≤ c0) (h : ligatureref09_At.f k l0 a1 = some r) :
    Calls Tryz.prog 53 #[.slice A0 l0.length c0, .string a1] w fun e w' => e = .returned (.int .i64 r) ∧ Drawn0 w w' := by
  have HR0 := Aside0.mk hr0
  have HC0 := Aside0.mk hc0
  clear hr0 hc0
  have H : (ligatureref09_At.l0 k l0 a1 0 0) = some r := h
  clear h
  have H' := Aside0.mk H
  clear H
  go_enter Tryz.func53, Tryz.ntmps53
  go_wp2
  repeat (go_quiet (fail); try go_wp2)
  go_loopg [5, 6] k (fun kq v5 v6 w' => ∃ (x5_1 : Int) (x6_1 : Int), v5 = .int .i64 x5_1 ∧ v6 = .int .i64 x6_1 ∧ Aside0 (ligatureref09_At.l0 kq l0 a1 x5_1 x6_1 = some r) ∧ Aside0 (kq ≤ k) ∧ Drawn0 w w')
  case atStart => exact ⟨(0), (0), (by first | rfl | (simp; done) | (simp [*]; done)), (by first | rfl | (simp; done) | (simp [*]; done)), H', ⟨Nat.le_refl _⟩, by repeat (first | exact Drawn0.refl _ | apply Drawn0.step)⟩
  case round =>
    clear H'
    try clear p2
    obtain ⟨x5_1, x6_1, rfl, rfl, HA, HK1, ⟨m1, rfl⟩⟩ := hrel
    cases gk with
    | zero => exact absurd HA.out (by simp [ligatureref09_At.l0])
    | succ k1 =>
      have H := HA.out
      clear HA
      simp only [ligatureref09_At.l0] at H
      by_cases c3 : x6_1 < (l0.length : Int)
      · rw [if_pos c3] at H
        have c3b0 : decide (x6_1 < (l0.length : Int)) = true := decide_eq_true c3
        clear c3
        by_cases c4 : 0 ≤ x6_1
        · rw [if_pos c4] at H
          have c4b0 : decide (0 ≤ x6_1) = true := decide_eq_true c4
          clear c4
          replace H := Option.bind_eq_some_iff.mp H
          obtain ⟨t293, A50, H⟩ := H
          replace H : (if t293 = true then (if x5_1 = 0 then (ligatureref09_At.l0 k1 l0 a1 (wrap64 ((-1) - x6_1)) (wrap64 (x6_1 + 1))) else (if 0 ≤ (wrap64 ((-1) - x5_1)) then (if (wrap64 ((-1) - x5_1)) < (l0.length : Int) then (if (((rd_T93 l0 x6_1).f1).size : Int) > (((rd_T93 l0 (wrap64 ((-1) - x5_1))).f1).size : Int) then (ligatureref09_At.l0 k1 l0 a1 (wrap64 ((-1) - x6_1)) (wrap64 (x6_1 + 1))) else (ligatureref09_At.l0 k1 l0 a1 x5_1 (wrap64 (x6_1 + 1)))) else (none)) else (none))) else (ligatureref09_At.l0 k1 l0 a1 x5_1 (wrap64 (x6_1 + 1)))) = some r := H
          have A5 := Aside0.mk A50
          clear A50
          by_cases c6 : t293 = true
          · subst c6
            have H1 : (if x5_1 = 0 then (ligatureref09_At.l0 k1 l0 a1 (wrap64 ((-1) - x6_1)) (wrap64 (x6_1 + 1))) else (if 0 ≤ (wrap64 ((-1) - x5_1)) then (if (wrap64 ((-1) - x5_1)) < (l0.length : Int) then (if (((rd_T93 l0 x6_1).f1).size : Int) > (((rd_T93 l0 (wrap64 ((-1) - x5_1))).f1).size : Int) then (ligatureref09_At.l0 k1 l0 a1 (wrap64 ((-1) - x6_1)) (wrap64 (x6_1 + 1))) else (ligatureref09_At.l0 k1 l0 a1 x5_1 (wrap64 (x6_1 + 1)))) else (none)) else (none))) = some r := by rw [if_pos rfl] at H; exact H
            clear H
            have H := H1
            clear H1
            by_cases c7 : x5_1 = 0
            · rw [if_pos c7] at H
              have c7b0 : (x5_1 == 0) = true := beq_iff_eq.mpr c7
              have c7b1 : (x5_1 != 0) = false := bne_eq_false_iff_eq.mpr c7
              clear c7
              have H' := Aside0.mk H
              clear H
              have p292 : 0 ≤ (x6_1 : Int) := of_decide_eq_true (by first | (with_reducible assumption) | assumption)
              have q292 : x6_1 < (l0.length : Int) := of_decide_eq_true (by first | (with_reducible assumption) | assumption)
              obtain ⟨ad292, e292, hx292_0, hx292_1⟩ := at_T93 HR0.out x6_1 p292 q292
              cases e292
              replace p292 := eq_true p292
              replace q292 := eq_true q292
              go_wp2_with (first | (go_at_call 91; (with_reducible refine (ligatureref09_begins.calls a1 ((rd_T93 l0 x6_1).f1) true _ A5.out).mono ?_); rintro e w' ⟨rfl, ⟨nd, rfl⟩⟩; (try first | exact ⟨rfl, _, World.drewN_drewN _ _ _⟩ | exact ⟨rfl, _, Eq.trans (World.drewN_drewN _ _ _) (congrArg (World.drewN _) (Nat.add_assoc _ _ _))⟩)))
              repeat (go_quiet (first | (go_at_call 91; (with_reducible refine (ligatureref09_begins.calls a1 ((rd_T93 l0 x6_1).f1) true _ A5.out).mono ?_); rintro e w' ⟨rfl, ⟨nd, rfl⟩⟩; (try first | exact ⟨rfl, _, World.drewN_drewN _ _ _⟩ | exact ⟨rfl, _, Eq.trans (World.drewN_drewN _ _ _) (congrArg (World.drewN _) (Nat.add_assoc _ _ _))⟩))); try go_wp2_with (first | (go_at_call 91; (with_reducible refine (ligatureref09_begins.calls a1 ((rd_T93 l0 x6_1).f1) true _ A5.out).mono ?_); rintro e w' ⟨rfl, ⟨nd, rfl⟩⟩; (try first | exact ⟨rfl, _, World.drewN_drewN _ _ _⟩ | exact ⟨rfl, _, Eq.trans (World.drewN_drewN _ _ _) (congrArg (World.drewN _) (Nat.add_assoc _ _ _))⟩))))
              go_roundg k1
              case measure => have := HK1.out; omega
              case rel => exact ⟨(wrap64 ((-1) - x6_1)), (wrap64 (x6_1 + 1)), (by first | rfl | (simp; done) | (simp [*]; done)), (by first | rfl | (simp; done) | (simp [*]; done)), H', ⟨by have := HK1.out; omega⟩, by repeat (first | exact Drawn0.refl _ | apply Drawn0.step)⟩
            · rw [if_neg c7] at H
              have c7b0 : (x5_1 == 0) = false := beq_eq_false_iff_ne.mpr c7
              have c7b1 : (x5_1 != 0) = true := bne_iff_ne.mpr c7
              obtain ⟨ji8, hji8⟩ : ∃ j_ : Int, (wrap64 ((-1) - x5_1)) = j_ := ⟨_, rfl⟩
              replace H : (if 0 ≤ (ji8) then (if (ji8) < (l0.length : Int) then (if (((rd_T93 l0 x6_1).f1).size : Int) > (((rd_T93 l0 (ji8)).f1).size : Int) then (ligatureref09_At.l0 k1 l0 a1 (wrap64 ((-1) - x6_1)) (wrap64 (x6_1 + 1))) else (ligatureref09_At.l0 k1 l0 a1 x5_1 (wrap64 (x6_1 + 1)))) else (none)) else (none)) = some r := by first | (rw [hji8] at H; exact H) | (simp only [hji8] at H ⊢; exact H)
              (try rw [hji8] at A5)
              have hji8w : (IntKind.i64.wrap ((-1) - x5_1)) = ji8 := (i64_w _).trans hji8
              by_cases c9 : 0 ≤ (ji8)
              · rw [if_pos c9] at H
                have c9b0 : decide (0 ≤ (ji8)) = true := decide_eq_true c9
                clear c9
                by_cases c10 : (ji8) < (l0.length : Int)
                · rw [if_pos c10] at H
                  have c10b0 : decide ((ji8) < (l0.length : Int)) = true := decide_eq_true c10
                  clear c10
                  by_cases c11 : (((rd_T93 l0 x6_1).f1).size : Int) > (((rd_T93 l0 (ji8)).f1).size : Int)
                  · rw [if_pos c11] at H
                    have c11b0 : decide ((((rd_T93 l0 (ji8)).f1).size : Int) < (((rd_T93 l0 x6_1).f1).size : Int)) = true := decide_eq_true c11
                    have c11b1 : decide (((rd_T93 l0 (ji8)).f1).size < ((rd_T93 l0 x6_1).f1).size) = true := decide_eq_true (Int.ofNat_lt.mp c11)
                    clear c11
                    have H' := Aside0.mk H
                    clear H
                    have p292 : 0 ≤ (x6_1 : Int) := of_decide_eq_true (by first | (with_reducible assumption) | assumption)
                    have q292 : x6_1 < (l0.length : Int) := of_decide_eq_true (by first | (with_reducible assumption) | assumption)
                    obtain ⟨ad292, e292, hx292_0, hx292_1⟩ := at_T93 HR0.out x6_1 p292 q292
                    cases e292
                    replace p292 := eq_true p292
                    replace q292 := eq_true q292
                    go_wp2_with (first | (go_at_call 91; (with_reducible refine (ligatureref09_begins.calls a1 ((rd_T93 l0 x6_1).f1) true _ A5.out).mono ?_); rintro e w' ⟨rfl, ⟨nd, rfl⟩⟩; (try first | exact ⟨rfl, _, World.drewN_drewN _ _ _⟩ | exact ⟨rfl, _, Eq.trans (World.drewN_drewN _ _ _) (congrArg (World.drewN _) (Nat.add_assoc _ _ _))⟩); have p294 : 0 ≤ (x6_1 : Int) := of_decide_eq_true (by first | (with_reducible assumption) | assumption); have q294 : x6_1 < (l0.length : Int) := of_decide_eq_true (by first | (with_reducible assumption) | assumption); obtain ⟨ad294, e294, hx294_0, hx294_1⟩ := at_T93 HR0.out x6_1 p294 q294; obtain rfl : ad292 = ad294 := (by injection e294); replace p294 := eq_true p294; replace q294 := eq_true q294; have p295 : 0 ≤ ((ji8) : Int) := of_decide_eq_true (by first | (with_reducible assumption) | assumption); have q295 : (ji8) < (l0.length : Int) := of_decide_eq_true (by first | (with_reducible assumption) | assumption); obtain ⟨ad295, e295, hx295_0, hx295_1⟩ := at_T93 HR0.out (ji8) p295 q295; obtain rfl : ad292 = ad295 := (by injection e295); replace p295 := eq_true p295; replace q295 := eq_true q295))
                    repeat (go_quiet (first | (go_at_call 91; (with_reducible refine (ligatureref09_begins.calls a1 ((rd_T93 l0 x6_1).f1) true _ A5.out).mono ?_); rintro e w' ⟨rfl, ⟨nd, rfl⟩⟩; (try first | exact ⟨rfl, _, World.drewN_drewN _ _ _⟩ | exact ⟨rfl, _, Eq.trans (World.drewN_drewN _ _ _) (congrArg (World.drewN _) (Nat.add_assoc _ _ _))⟩); have p294 : 0 ≤ (x6_1 : Int) := of_decide_eq_true (by first | (with_reducible assumption) | assumption); have q294 : x6_1 < (l0.length : Int) := of_decide_eq_true (by first | (with_reducible assumption) | assumption); obtain ⟨ad294, e294, hx294_0, hx294_1⟩ := at_T93 HR0.out x6_1 p294 q294; obtain rfl : ad292 = ad294 := (by injection e294); replace p294 := eq_true p294; replace q294 := eq_true q294; have p295 : 0 ≤ ((ji8) : Int) := of_decide_eq_true (by first | (with_reducible assumption) | assumption); have q295 : (ji8) < (l0.length : Int) := of_decide_eq_true (by first | (with_reducible assumption) | assumption); obtain ⟨ad295, e295, hx295_0, hx295_1⟩ := at_T93 HR0.out (ji8) p295 q295; obtain rfl : ad292 = ad295 := (by injection e295); replace p295 := eq_true p295; replace q295 := eq_true q295)); try go_wp2_with (first | (go_at_call 91; (with_reducible refine (ligatureref09_begins.calls a1 ((rd_T93 l0 x6_1).f1) true _ A5.out).mono ?_); rintro e w' ⟨rfl, ⟨nd, rfl⟩⟩; (try first | exact ⟨rfl, _, World.drewN_drewN _ _ _⟩ | exact ⟨rfl, _, Eq.trans (World.drewN_drewN _ _ _) (congrArg (World.drewN _) (Nat.add_assoc _ _ _))⟩); have p294 : 0 ≤ (x6_1 : Int) := of_decide_eq_true (by first | (with_reducible assumption) | assumption); have q294 : x6_1 < (l0.length : Int) := of_decide_eq_true (by first | (with_reducible assumption) | assumption); obtain ⟨ad294, e294, hx294_0, hx294_1⟩ := at_T93 HR0.out x6_1 p294 q294; obtain rfl : ad292 = ad294 := (by injection e294); replace p294 := eq_true p294; replace q294 := eq_true q294; have p295 : 0 ≤ ((ji8) : Int) := of_decide_eq_true (by first | (with_reducible assumption) | assumption); have q295 : (ji8) < (l0.length : Int) := of_decide_eq_true (by first | (with_reducible assumption) | assumption); obtain ⟨ad295, e295, hx295_0, hx295_1⟩ := at_T93 HR0.out (ji8) p295 q295; obtain rfl : ad292 = ad295 := (by injection e295); replace p295 := eq_true p295; replace q295 := eq_true q295)))
                    go_roundg k1
                    case measure => have := HK1.out; omega
                    case rel => exact ⟨(wrap64 ((-1) - x6_1)), (wrap64 (x6_1 + 1)), (by first | rfl | (simp; done) | (simp [*]; done)), (by first | rfl | (simp; done) | (simp [*]; done)), H', ⟨by have := HK1.out; omega⟩, by repeat (first | exact Drawn0.refl _ | apply Drawn0.step)⟩
                  · rw [if_neg c11] at H
                    have c11b0 : decide ((((rd_T93 l0 (ji8)).f1).size : Int) < (((rd_T93 l0 x6_1).f1).size : Int)) = false := decide_eq_false c11
                    have c11b1 : decide (((rd_T93 l0 (ji8)).f1).size < ((rd_T93 l0 x6_1).f1).size) = false := decide_eq_false (fun h => c11 (Int.ofNat_lt.mpr h))
                    clear c11
                    have H' := Aside0.mk H
                    clear H
                    have p292 : 0 ≤ (x6_1 : Int) := of_decide_eq_true (by first | (with_reducible assumption) | assumption)
                    have q292 : x6_1 < (l0.length : Int) := of_decide_eq_true (by first | (with_reducible assumption) | assumption)
                    obtain ⟨ad292, e292, hx292_0, hx292_1⟩ := at_T93 HR0.out x6_1 p292 q292
                    cases e292
                    replace p292 := eq_true p292
                    replace q292 := eq_true q292
                    go_wp2_with (first | (go_at_call 91; (with_reducible refine (ligatureref09_begins.calls a1 ((rd_T93 l0 x6_1).f1) true _ A5.out).mono ?_); rintro e w' ⟨rfl, ⟨nd, rfl⟩⟩; (try first | exact ⟨rfl, _, World.drewN_drewN _ _ _⟩ | exact ⟨rfl, _, Eq.trans (World.drewN_drewN _ _ _) (congrArg (World.drewN _) (Nat.add_assoc _ _ _))⟩); have p294 : 0 ≤ (x6_1 : Int) := of_decide_eq_true (by first | (with_reducible assumption) | assumption); have q294 : x6_1 < (l0.length : Int) := of_decide_eq_true (by first | (with_reducible assumption) | assumption); obtain ⟨ad294, e294, hx294_0, hx294_1⟩ := at_T93 HR0.out x6_1 p294 q294; obtain rfl : ad292 = ad294 := (by injection e294); replace p294 := eq_true p294; replace q294 := eq_true q294; have p295 : 0 ≤ ((ji8) : Int) := of_decide_eq_true (by first | (with_reducible assumption) | assumption); have q295 : (ji8) < (l0.length : Int) := of_decide_eq_true (by first | (with_reducible assumption) | assumption); obtain ⟨ad295, e295, hx295_0, hx295_1⟩ := at_T93 HR0.out (ji8) p295 q295; obtain rfl : ad292 = ad295 := (by injection e295); replace p295 := eq_true p295; replace q295 := eq_true q295))
                    repeat (go_quiet (first | (go_at_call 91; (with_reducible refine (ligatureref09_begins.calls a1 ((rd_T93 l0 x6_1).f1) true _ A5.out).mono ?_); rintro e w' ⟨rfl, ⟨nd, rfl⟩⟩; (try first | exact ⟨rfl, _, World.drewN_drewN _ _ _⟩ | exact ⟨rfl, _, Eq.trans (World.drewN_drewN _ _ _) (congrArg (World.drewN _) (Nat.add_assoc _ _ _))⟩); have p294 : 0 ≤ (x6_1 : Int) := of_decide_eq_true (by first | (with_reducible assumption) | assumption); have q294 : x6_1 < (l0.length : Int) := of_decide_eq_true (by first | (with_reducible assumption) | assumption); obtain ⟨ad294, e294, hx294_0, hx294_1⟩ := at_T93 HR0.out x6_1 p294 q294; obtain rfl : ad292 = ad294 := (by injection e294); replace p294 := eq_true p294; replace q294 := eq_true q294; have p295 : 0 ≤ ((ji8) : Int) := of_decide_eq_true (by first | (with_reducible assumption) | assumption); have q295 : (ji8) < (l0.length : Int) := of_decide_eq_true (by first | (with_reducible assumption) | assumption); obtain ⟨ad295, e295, hx295_0, hx295_1⟩ := at_T93 HR0.out (ji8) p295 q295; obtain rfl : ad292 = ad295 := (by injection e295); replace p295 := eq_true p295; replace q295 := eq_true q295)); try go_wp2_with (first | (go_at_call 91; (with_reducible refine (ligatureref09_begins.calls a1 ((rd_T93 l0 x6_1).f1) true _ A5.out).mono ?_); rintro e w' ⟨rfl, ⟨nd, rfl⟩⟩; (try first | exact ⟨rfl, _, World.drewN_drewN _ _ _⟩ | exact ⟨rfl, _, Eq.trans (World.drewN_drewN _ _ _) (congrArg (World.drewN _) (Nat.add_assoc _ _ _))⟩); have p294 : 0 ≤ (x6_1 : Int) := of_decide_eq_true (by first | (with_reducible assumption) | assumption); have q294 : x6_1 < (l0.length : Int) := of_decide_eq_true (by first | (with_reducible assumption) | assumption); obtain ⟨ad294, e294, hx294_0, hx294_1⟩ := at_T93 HR0.out x6_1 p294 q294; obtain rfl : ad292 = ad294 := (by injection e294); replace p294 := eq_true p294; replace q294 := eq_true q294; have p295 : 0 ≤ ((ji8) : Int) := of_decide_eq_true (by first | (with_reducible assumption) | assumption); have q295 : (ji8) < (l0.length : Int) := of_decide_eq_true (by first | (with_reducible assumption) | assumption); obtain ⟨ad295, e295, hx295_0, hx295_1⟩ := at_T93 HR0.out (ji8) p295 q295; obtain rfl : ad292 = ad295 := (by injection e295); replace p295 := eq_true p295; replace q295 := eq_true q295)))
                    go_roundg k1
                    case measure => have := HK1.out; omega
                    case rel => exact ⟨(x5_1), (wrap64 (x6_1 + 1)), (by first | rfl | (simp; done) | (simp [*]; done)), (by first | rfl | (simp; done) | (simp [*]; done)), H', ⟨by have := HK1.out; omega⟩, by repeat (first | exact Drawn0.refl _ | apply Drawn0.step)⟩
                · rw [if_neg c10] at H
                  exact absurd H (by simp)
              · rw [if_neg c9] at H
                exact absurd H (by simp)
          · replace c6 := Bool.eq_false_iff.mpr c6
            subst c6
            have H1 : (ligatureref09_At.l0 k1 l0 a1 x5_1 (wrap64 (x6_1 + 1))) = some r := by rw [if_neg (show ¬ (false = true) by decide)] at H; exact H
            clear H
            have H := H1
            clear H1
            have H' := Aside0.mk H
            clear H
            have p292 : 0 ≤ (x6_1 : Int) := of_decide_eq_true (by first | (with_reducible assumption) | assumption)
            have q292 : x6_1 < (l0.length : Int) := of_decide_eq_true (by first | (with_reducible assumption) | assumption)
            obtain ⟨ad292, e292, hx292_0, hx292_1⟩ := at_T93 HR0.out x6_1 p292 q292
            cases e292
            replace p292 := eq_true p292
            replace q292 := eq_true q292
            go_wp2_with (first | (go_at_call 91; (with_reducible refine (ligatureref09_begins.calls a1 ((rd_T93 l0 x6_1).f1) false _ A5.out).mono ?_); rintro e w' ⟨rfl, ⟨nd, rfl⟩⟩; (try first | exact ⟨rfl, _, World.drewN_drewN _ _ _⟩ | exact ⟨rfl, _, Eq.trans (World.drewN_drewN _ _ _) (congrArg (World.drewN _) (Nat.add_assoc _ _ _))⟩)))
            repeat (go_quiet (first | (go_at_call 91; (with_reducible refine (ligatureref09_begins.calls a1 ((rd_T93 l0 x6_1).f1) false _ A5.out).mono ?_); rintro e w' ⟨rfl, ⟨nd, rfl⟩⟩; (try first | exact ⟨rfl, _, World.drewN_drewN _ _ _⟩ | exact ⟨rfl, _, Eq.trans (World.drewN_drewN _ _ _) (congrArg (World.drewN _) (Nat.add_assoc _ _ _))⟩))); try go_wp2_with (first | (go_at_call 91; (with_reducible refine (ligatureref09_begins.calls a1 ((rd_T93 l0 x6_1).f1) false _ A5.out).mono ?_); rintro e w' ⟨rfl, ⟨nd, rfl⟩⟩; (try first | exact ⟨rfl, _, World.drewN_drewN _ _ _⟩ | exact ⟨rfl, _, Eq.trans (World.drewN_drewN _ _ _) (congrArg (World.drewN _) (Nat.add_assoc _ _ _))⟩))))
            go_roundg k1
            case measure => have := HK1.out; omega
            case rel => exact ⟨(x5_1), (wrap64 (x6_1 + 1)), (by first | rfl | (simp; done) | (simp [*]; done)), (by first | rfl | (simp; done) | (simp [*]; done)), H', ⟨by have := HK1.out; omega⟩, by repeat (first | exact Drawn0.refl _ | apply Drawn0.step)⟩
        · rw [if_neg c4] at H
          exact absurd H (by simp)
      · rw [if_neg c3] at H
        have c3b0 : decide (x6_1 < (l0.length : Int)) = false := decide_eq_false c3
        clear c3
        obtain rfl := Option.some.inj H
        go_wp2
        repeat (go_quiet (fail); try go_wp2)
        go_ret
        exact ⟨by first | rfl | (simp; done) | (simp [*]; done), by repeat (first | exact Drawn0.refl _ | apply Drawn0.step)⟩
end Go.Proofs.YtkffhgiiejbnaaaGreat.Rf
