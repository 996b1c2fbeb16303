import Derived.Test.YtkffhgiiejbnaaaGreatZ01
set_option maxRecDepth 100000
set_option maxHeartbeats 8000000
set_option linter.unusedVariables false
set_option linter.unusedSimpArgs false
namespace Go.Proofs.YtkffhgiiejbnaaaGreat.Rf
open Go.RowKit YtkffhgiiejbnaaaGreatW.PrintWords YtkffhgiiejbnaaaGreatW.PrintLast YtkffhgiiejbnaaaGreatW.PrintMore
attribute [local go_sem] max2_int min2_int max_two min_two max_three min_three max_four min_four
def ligatureref09_At.l0 : Nat → List (S93) → ByteArray → Int → Int → Option (Int)
 | 0, _, _, _, _ => none
 | k + 1, x0, x1, x5, x6 => if x6 < (x0.length : Int) then (if 0 ≤ x6 then ((ligatureref09_begins.f x1 ((rd_T93 x0 x6).f1)).bind fun t293 => (if t293 = true then (if x5 = 0 then (ligatureref09_At.l0 k x0 x1 (wrap64 ((-1) - x6)) (wrap64 (x6 + 1))) else (if 0 ≤ (wrap64 ((-1) - x5)) then (if (wrap64 ((-1) - x5)) < (x0.length : Int) then (if (((rd_T93 x0 x6).f1).size : Int) > (((rd_T93 x0 (wrap64 ((-1) - x5))).f1).size : Int) then (ligatureref09_At.l0 k x0 x1 (wrap64 ((-1) - x6)) (wrap64 (x6 + 1))) else (ligatureref09_At.l0 k x0 x1 x5 (wrap64 (x6 + 1)))) else (none)) else (none))) else (ligatureref09_At.l0 k x0 x1 x5 (wrap64 (x6 + 1))))) else (none)) else (some x5)
def ligatureref09_At.f (k : Nat) (l0 : List (S93)) (a1 : ByteArray) : Option (Int) := ligatureref09_At.l0 k l0 a1 0 0
theorem ligatureref09_At.calls (k : Nat) (A0 : Option Addr) (c0 : Nat) (l0 : List (S93)) (a1 : ByteArray) (r : Int) (w : World) (hr0 : Kd.C k93 w A0 l0.length l0) (hc0 : l0.length ≤ c0) (h : ligatureref09_At.f k l0 a1 = some r) :
  Calls Tryz.prog 53 #[.slice A0 l0.length c0, .string a1] w fun e w' => e = .returned (.int .i64 r) ∧ Drawn0 w w' := by
 have HR0 := Aside0.mk hr0
 have HC0 := Aside0.mk hc0
 clear hr0 hc0
 have H : (ligatureref09_At.l0 k l0 a1 0 0) = some r := h
 clear h
 have H' := Aside0.mk H
 clear H
 go_enter Tryz.func53, Tryz.ntmps53
 go_wp2
 repeat (go_quiet (fail); try go_wp2)
 go_loopg [5, 6] k (fun kq v5 v6 w' => ∃ (x5_1 : Int) (x6_1 : Int), v5 = .int .i64 x5_1 ∧ v6 = .int .i64 x6_1 ∧ Aside0 (ligatureref09_At.l0 kq l0 a1 x5_1 x6_1 = some r) ∧ Aside0 (kq ≤ k) ∧ Drawn0 w w')
 case atStart => exact ⟨(0), (0), (by first | rfl | (simp; done) | (simp [*]; done)), (by first | rfl | (simp; done) | (simp [*]; done)), H', ⟨Nat.le_refl _⟩, by repeat (first | exact Drawn0.refl _ | apply Drawn0.step)⟩
 case round =>
  clear H'
  try clear p2
  obtain ⟨x5_1, x6_1, rfl, rfl, HA, HK1, ⟨m1, rfl⟩⟩ := hrel
  cases gk with
  | zero => exact absurd HA.out (by simp [ligatureref09_At.l0])
  | succ k1 =>
   have H := HA.out
   clear HA
   simp only [ligatureref09_At.l0] at H
   by_cases c3 : x6_1 < (l0.length : Int)
   ·rw [if_pos c3] at H
    have c3b0 : decide (x6_1 < (l0.length : Int)) = true := decide_eq_true c3
    clear c3
    by_cases c4 : 0 ≤ x6_1
    ·rw [if_pos c4] at H
     have c4b0 : decide (0 ≤ x6_1) = true := decide_eq_true c4
     clear c4
     replace H := Option.bind_eq_some_iff.mp H
     obtain ⟨t293, A50, H⟩ := H
     replace H : (if t293 = true then (if x5_1 = 0 then (ligatureref09_At.l0 k1 l0 a1 (wrap64 ((-1) - x6_1)) (wrap64 (x6_1 + 1))) else (if 0 ≤ (wrap64 ((-1) - x5_1)) then (if (wrap64 ((-1) - x5_1)) < (l0.length : Int) then (if (((rd_T93 l0 x6_1).f1).size : Int) > (((rd_T93 l0 (wrap64 ((-1) - x5_1))).f1).size : Int) then (ligatureref09_At.l0 k1 l0 a1 (wrap64 ((-1) - x6_1)) (wrap64 (x6_1 + 1))) else (ligatureref09_At.l0 k1 l0 a1 x5_1 (wrap64 (x6_1 + 1)))) else (none)) else (none))) else (ligatureref09_At.l0 k1 l0 a1 x5_1 (wrap64 (x6_1 + 1)))) = some r := H
     have A5 := Aside0.mk A50
     clear A50
     by_cases c6 : t293 = true
     ·subst c6
      have H1 : (if x5_1 = 0 then (ligatureref09_At.l0 k1 l0 a1 (wrap64 ((-1) - x6_1)) (wrap64 (x6_1 + 1))) else (if 0 ≤ (wrap64 ((-1) - x5_1)) then (if (wrap64 ((-1) - x5_1)) < (l0.length : Int) then (if (((rd_T93 l0 x6_1).f1).size : Int) > (((rd_T93 l0 (wrap64 ((-1) - x5_1))).f1).size : Int) then (ligatureref09_At.l0 k1 l0 a1 (wrap64 ((-1) - x6_1)) (wrap64 (x6_1 + 1))) else (ligatureref09_At.l0 k1 l0 a1 x5_1 (wrap64 (x6_1 + 1)))) else (none)) else (none))) = some r := by rw [if_pos rfl] at H; exact H
      clear H
      have H := H1
      clear H1
      by_cases c7 : x5_1 = 0
      ·rw [if_pos c7] at H
       have c7b0 : (x5_1 == 0) = true := beq_iff_eq.mpr c7
       have c7b1 : (x5_1 != 0) = false := bne_eq_false_iff_eq.mpr c7
       clear c7
       have H' := Aside0.mk H
       clear H
       have p292 : 0 ≤ (x6_1 : Int) := of_decide_eq_true (by first | (with_reducible assumption) | assumption)
       have q292 : x6_1 < (l0.length : Int) := of_decide_eq_true (by first | (with_reducible assumption) | assumption)
       obtain ⟨ad292, e292, hx292_0, hx292_1⟩ := at_T93 HR0.out x6_1 p292 q292
       cases e292
       replace p292 := eq_true p292
       replace q292 := eq_true q292
       go_wp2_with (first | (go_at_call 91; (with_reducible refine (ligatureref09_begins.calls a1 ((rd_T93 l0 x6_1).f1) true _ A5.out).mono ?_); rintro e w' ⟨rfl, ⟨nd, rfl⟩⟩; (try first | exact ⟨rfl, _, World.drewN_drewN _ _ _⟩ | exact ⟨rfl, _, Eq.trans (World.drewN_drewN _ _ _) (congrArg (World.drewN _) (Nat.add_assoc _ _ _))⟩)))
       repeat (go_quiet (first | (go_at_call 91; (with_reducible refine (ligatureref09_begins.calls a1 ((rd_T93 l0 x6_1).f1) true _ A5.out).mono ?_); rintro e w' ⟨rfl, ⟨nd, rfl⟩⟩; (try first | exact ⟨rfl, _, World.drewN_drewN _ _ _⟩ | exact ⟨rfl, _, Eq.trans (World.drewN_drewN _ _ _) (congrArg (World.drewN _) (Nat.add_assoc _ _ _))⟩))); try go_wp2_with (first | (go_at_call 91; (with_reducible refine (ligatureref09_begins.calls a1 ((rd_T93 l0 x6_1).f1) true _ A5.out).mono ?_); rintro e w' ⟨rfl, ⟨nd, rfl⟩⟩; (try first | exact ⟨rfl, _, World.drewN_drewN _ _ _⟩ | exact ⟨rfl, _, Eq.trans (World.drewN_drewN _ _ _) (congrArg (World.drewN _) (Nat.add_assoc _ _ _))⟩))))
       go_roundg k1
       case measure => have := HK1.out; omega
       case rel => exact ⟨(wrap64 ((-1) - x6_1)), (wrap64 (x6_1 + 1)), (by first | rfl | (simp; done) | (simp [*]; done)), (by first | rfl | (simp; done) | (simp [*]; done)), H', ⟨by have := HK1.out; omega⟩, by repeat (first | exact Drawn0.refl _ | apply Drawn0.step)⟩
      ·rw [if_neg c7] at H
       have c7b0 : (x5_1 == 0) = false := beq_eq_false_iff_ne.mpr c7
       have c7b1 : (x5_1 != 0) = true := bne_iff_ne.mpr c7
       obtain ⟨ji8, hji8⟩ : ∃ j_ : Int, (wrap64 ((-1) - x5_1)) = j_ := ⟨_, rfl⟩
       replace H : (if 0 ≤ (ji8) then (if (ji8) < (l0.length : Int) then (if (((rd_T93 l0 x6_1).f1).size : Int) > (((rd_T93 l0 (ji8)).f1).size : Int) then (ligatureref09_At.l0 k1 l0 a1 (wrap64 ((-1) - x6_1)) (wrap64 (x6_1 + 1))) else (ligatureref09_At.l0 k1 l0 a1 x5_1 (wrap64 (x6_1 + 1)))) else (none)) else (none)) = some r := by first | (rw [hji8] at H; exact H) | (simp only [hji8] at H ⊢; exact H)
       (try rw [hji8] at A5)
       have hji8w : (IntKind.i64.wrap ((-1) - x5_1)) = ji8 := (i64_w _).trans hji8
       by_cases c9 : 0 ≤ (ji8)
       ·rw [if_pos c9] at H
        have c9b0 : decide (0 ≤ (ji8)) = true := decide_eq_true c9
        clear c9
        by_cases c10 : (ji8) < (l0.length : Int)
        ·rw [if_pos c10] at H
         have c10b0 : decide ((ji8) < (l0.length : Int)) = true := decide_eq_true c10
         clear c10
         by_cases c11 : (((rd_T93 l0 x6_1).f1).size : Int) > (((rd_T93 l0 (ji8)).f1).size : Int)
         ·rw [if_pos c11] at H
          have c11b0 : decide ((((rd_T93 l0 (ji8)).f1).size : Int) < (((rd_T93 l0 x6_1).f1).size : Int)) = true := decide_eq_true c11
          have c11b1 : decide (((rd_T93 l0 (ji8)).f1).size < ((rd_T93 l0 x6_1).f1).size) = true := decide_eq_true (Int.ofNat_lt.mp c11)
          clear c11
          have H' := Aside0.mk H
          clear H
          have p292 : 0 ≤ (x6_1 : Int) := of_decide_eq_true (by first | (with_reducible assumption) | assumption)
          have q292 : x6_1 < (l0.length : Int) := of_decide_eq_true (by first | (with_reducible assumption) | assumption)
          obtain ⟨ad292, e292, hx292_0, hx292_1⟩ := at_T93 HR0.out x6_1 p292 q292
          cases e292
          replace p292 := eq_true p292
          replace q292 := eq_true q292
          go_wp2_with (first | (go_at_call 91; (with_reducible refine (ligatureref09_begins.calls a1 ((rd_T93 l0 x6_1).f1) true _ A5.out).mono ?_); rintro e w' ⟨rfl, ⟨nd, rfl⟩⟩; (try first | exact ⟨rfl, _, World.drewN_drewN _ _ _⟩ | exact ⟨rfl, _, Eq.trans (World.drewN_drewN _ _ _) (congrArg (World.drewN _) (Nat.add_assoc _ _ _))⟩); have p294 : 0 ≤ (x6_1 : Int) := of_decide_eq_true (by first | (with_reducible assumption) | assumption); have q294 : x6_1 < (l0.length : Int) := of_decide_eq_true (by first | (with_reducible assumption) | assumption); obtain ⟨ad294, e294, hx294_0, hx294_1⟩ := at_T93 HR0.out x6_1 p294 q294; obtain rfl : ad292 = ad294 := (by injection e294); replace p294 := eq_true p294; replace q294 := eq_true q294; have p295 : 0 ≤ ((ji8) : Int) := of_decide_eq_true (by first | (with_reducible assumption) | assumption); have q295 : (ji8) < (l0.length : Int) := of_decide_eq_true (by first | (with_reducible assumption) | assumption); obtain ⟨ad295, e295, hx295_0, hx295_1⟩ := at_T93 HR0.out (ji8) p295 q295; obtain rfl : ad292 = ad295 := (by injection e295); replace p295 := eq_true p295; replace q295 := eq_true q295))
          repeat (go_quiet (first | (go_at_call 91; (with_reducible refine (ligatureref09_begins.calls a1 ((rd_T93 l0 x6_1).f1) true _ A5.out).mono ?_); rintro e w' ⟨rfl, ⟨nd, rfl⟩⟩; (try first | exact ⟨rfl, _, World.drewN_drewN _ _ _⟩ | exact ⟨rfl, _, Eq.trans (World.drewN_drewN _ _ _) (congrArg (World.drewN _) (Nat.add_assoc _ _ _))⟩); have p294 : 0 ≤ (x6_1 : Int) := of_decide_eq_true (by first | (with_reducible assumption) | assumption); have q294 : x6_1 < (l0.length : Int) := of_decide_eq_true (by first | (with_reducible assumption) | assumption); obtain ⟨ad294, e294, hx294_0, hx294_1⟩ := at_T93 HR0.out x6_1 p294 q294; obtain rfl : ad292 = ad294 := (by injection e294); replace p294 := eq_true p294; replace q294 := eq_true q294; have p295 : 0 ≤ ((ji8) : Int) := of_decide_eq_true (by first | (with_reducible assumption) | assumption); have q295 : (ji8) < (l0.length : Int) := of_decide_eq_true (by first | (with_reducible assumption) | assumption); obtain ⟨ad295, e295, hx295_0, hx295_1⟩ := at_T93 HR0.out (ji8) p295 q295; obtain rfl : ad292 = ad295 := (by injection e295); replace p295 := eq_true p295; replace q295 := eq_true q295)); try go_wp2_with (first | (go_at_call 91; (with_reducible refine (ligatureref09_begins.calls a1 ((rd_T93 l0 x6_1).f1) true _ A5.out).mono ?_); rintro e w' ⟨rfl, ⟨nd, rfl⟩⟩; (try first | exact ⟨rfl, _, World.drewN_drewN _ _ _⟩ | exact ⟨rfl, _, Eq.trans (World.drewN_drewN _ _ _) (congrArg (World.drewN _) (Nat.add_assoc _ _ _))⟩); have p294 : 0 ≤ (x6_1 : Int) := of_decide_eq_true (by first | (with_reducible assumption) | assumption); have q294 : x6_1 < (l0.length : Int) := of_decide_eq_true (by first | (with_reducible assumption) | assumption); obtain ⟨ad294, e294, hx294_0, hx294_1⟩ := at_T93 HR0.out x6_1 p294 q294; obtain rfl : ad292 = ad294 := (by injection e294); replace p294 := eq_true p294; replace q294 := eq_true q294; have p295 : 0 ≤ ((ji8) : Int) := of_decide_eq_true (by first | (with_reducible assumption) | assumption); have q295 : (ji8) < (l0.length : Int) := of_decide_eq_true (by first | (with_reducible assumption) | assumption); obtain ⟨ad295, e295, hx295_0, hx295_1⟩ := at_T93 HR0.out (ji8) p295 q295; obtain rfl : ad292 = ad295 := (by injection e295); replace p295 := eq_true p295; replace q295 := eq_true q295)))
          go_roundg k1
          case measure => have := HK1.out; omega
          case rel => exact ⟨(wrap64 ((-1) - x6_1)), (wrap64 (x6_1 + 1)), (by first | rfl | (simp; done) | (simp [*]; done)), (by first | rfl | (simp; done) | (simp [*]; done)), H', ⟨by have := HK1.out; omega⟩, by repeat (first | exact Drawn0.refl _ | apply Drawn0.step)⟩
         ·rw [if_neg c11] at H
          have c11b0 : decide ((((rd_T93 l0 (ji8)).f1).size : Int) < (((rd_T93 l0 x6_1).f1).size : Int)) = false := decide_eq_false c11
          have c11b1 : decide (((rd_T93 l0 (ji8)).f1).size < ((rd_T93 l0 x6_1).f1).size) = false := decide_eq_false (fun h => c11 (Int.ofNat_lt.mpr h))
          clear c11
          have H' := Aside0.mk H
          clear H
          have p292 : 0 ≤ (x6_1 : Int) := of_decide_eq_true (by first | (with_reducible assumption) | assumption)
          have q292 : x6_1 < (l0.length : Int) := of_decide_eq_true (by first | (with_reducible assumption) | assumption)
          obtain ⟨ad292, e292, hx292_0, hx292_1⟩ := at_T93 HR0.out x6_1 p292 q292
          cases e292
          replace p292 := eq_true p292
          replace q292 := eq_true q292
          go_wp2_with (first | (go_at_call 91; (with_reducible refine (ligatureref09_begins.calls a1 ((rd_T93 l0 x6_1).f1) true _ A5.out).mono ?_); rintro e w' ⟨rfl, ⟨nd, rfl⟩⟩; (try first | exact ⟨rfl, _, World.drewN_drewN _ _ _⟩ | exact ⟨rfl, _, Eq.trans (World.drewN_drewN _ _ _) (congrArg (World.drewN _) (Nat.add_assoc _ _ _))⟩); have p294 : 0 ≤ (x6_1 : Int) := of_decide_eq_true (by first | (with_reducible assumption) | assumption); have q294 : x6_1 < (l0.length : Int) := of_decide_eq_true (by first | (with_reducible assumption) | assumption); obtain ⟨ad294, e294, hx294_0, hx294_1⟩ := at_T93 HR0.out x6_1 p294 q294; obtain rfl : ad292 = ad294 := (by injection e294); replace p294 := eq_true p294; replace q294 := eq_true q294; have p295 : 0 ≤ ((ji8) : Int) := of_decide_eq_true (by first | (with_reducible assumption) | assumption); have q295 : (ji8) < (l0.length : Int) := of_decide_eq_true (by first | (with_reducible assumption) | assumption); obtain ⟨ad295, e295, hx295_0, hx295_1⟩ := at_T93 HR0.out (ji8) p295 q295; obtain rfl : ad292 = ad295 := (by injection e295); replace p295 := eq_true p295; replace q295 := eq_true q295))
          repeat (go_quiet (first | (go_at_call 91; (with_reducible refine (ligatureref09_begins.calls a1 ((rd_T93 l0 x6_1).f1) true _ A5.out).mono ?_); rintro e w' ⟨rfl, ⟨nd, rfl⟩⟩; (try first | exact ⟨rfl, _, World.drewN_drewN _ _ _⟩ | exact ⟨rfl, _, Eq.trans (World.drewN_drewN _ _ _) (congrArg (World.drewN _) (Nat.add_assoc _ _ _))⟩); have p294 : 0 ≤ (x6_1 : Int) := of_decide_eq_true (by first | (with_reducible assumption) | assumption); have q294 : x6_1 < (l0.length : Int) := of_decide_eq_true (by first | (with_reducible assumption) | assumption); obtain ⟨ad294, e294, hx294_0, hx294_1⟩ := at_T93 HR0.out x6_1 p294 q294; obtain rfl : ad292 = ad294 := (by injection e294); replace p294 := eq_true p294; replace q294 := eq_true q294; have p295 : 0 ≤ ((ji8) : Int) := of_decide_eq_true (by first | (with_reducible assumption) | assumption); have q295 : (ji8) < (l0.length : Int) := of_decide_eq_true (by first | (with_reducible assumption) | assumption); obtain ⟨ad295, e295, hx295_0, hx295_1⟩ := at_T93 HR0.out (ji8) p295 q295; obtain rfl : ad292 = ad295 := (by injection e295); replace p295 := eq_true p295; replace q295 := eq_true q295)); try go_wp2_with (first | (go_at_call 91; (with_reducible refine (ligatureref09_begins.calls a1 ((rd_T93 l0 x6_1).f1) true _ A5.out).mono ?_); rintro e w' ⟨rfl, ⟨nd, rfl⟩⟩; (try first | exact ⟨rfl, _, World.drewN_drewN _ _ _⟩ | exact ⟨rfl, _, Eq.trans (World.drewN_drewN _ _ _) (congrArg (World.drewN _) (Nat.add_assoc _ _ _))⟩); have p294 : 0 ≤ (x6_1 : Int) := of_decide_eq_true (by first | (with_reducible assumption) | assumption); have q294 : x6_1 < (l0.length : Int) := of_decide_eq_true (by first | (with_reducible assumption) | assumption); obtain ⟨ad294, e294, hx294_0, hx294_1⟩ := at_T93 HR0.out x6_1 p294 q294; obtain rfl : ad292 = ad294 := (by injection e294); replace p294 := eq_true p294; replace q294 := eq_true q294; have p295 : 0 ≤ ((ji8) : Int) := of_decide_eq_true (by first | (with_reducible assumption) | assumption); have q295 : (ji8) < (l0.length : Int) := of_decide_eq_true (by first | (with_reducible assumption) | assumption); obtain ⟨ad295, e295, hx295_0, hx295_1⟩ := at_T93 HR0.out (ji8) p295 q295; obtain rfl : ad292 = ad295 := (by injection e295); replace p295 := eq_true p295; replace q295 := eq_true q295)))
          go_roundg k1
          case measure => have := HK1.out; omega
          case rel => exact ⟨(x5_1), (wrap64 (x6_1 + 1)), (by first | rfl | (simp; done) | (simp [*]; done)), (by first | rfl | (simp; done) | (simp [*]; done)), H', ⟨by have := HK1.out; omega⟩, by repeat (first | exact Drawn0.refl _ | apply Drawn0.step)⟩
        ·rw [if_neg c10] at H
         exact absurd H (by simp)
       ·rw [if_neg c9] at H
        exact absurd H (by simp)
     ·replace c6 := Bool.eq_false_iff.mpr c6
      subst c6
      have H1 : (ligatureref09_At.l0 k1 l0 a1 x5_1 (wrap64 (x6_1 + 1))) = some r := by rw [if_neg (show ¬ (false = true) by decide)] at H; exact H
      clear H
      have H := H1
      clear H1
      have H' := Aside0.mk H
      clear H
      have p292 : 0 ≤ (x6_1 : Int) := of_decide_eq_true (by first | (with_reducible assumption) | assumption)
      have q292 : x6_1 < (l0.length : Int) := of_decide_eq_true (by first | (with_reducible assumption) | assumption)
      obtain ⟨ad292, e292, hx292_0, hx292_1⟩ := at_T93 HR0.out x6_1 p292 q292
      cases e292
      replace p292 := eq_true p292
      replace q292 := eq_true q292
      go_wp2_with (first | (go_at_call 91; (with_reducible refine (ligatureref09_begins.calls a1 ((rd_T93 l0 x6_1).f1) false _ A5.out).mono ?_); rintro e w' ⟨rfl, ⟨nd, rfl⟩⟩; (try first | exact ⟨rfl, _, World.drewN_drewN _ _ _⟩ | exact ⟨rfl, _, Eq.trans (World.drewN_drewN _ _ _) (congrArg (World.drewN _) (Nat.add_assoc _ _ _))⟩)))
      repeat (go_quiet (first | (go_at_call 91; (with_reducible refine (ligatureref09_begins.calls a1 ((rd_T93 l0 x6_1).f1) false _ A5.out).mono ?_); rintro e w' ⟨rfl, ⟨nd, rfl⟩⟩; (try first | exact ⟨rfl, _, World.drewN_drewN _ _ _⟩ | exact ⟨rfl, _, Eq.trans (World.drewN_drewN _ _ _) (congrArg (World.drewN _) (Nat.add_assoc _ _ _))⟩))); try go_wp2_with (first | (go_at_call 91; (with_reducible refine (ligatureref09_begins.calls a1 ((rd_T93 l0 x6_1).f1) false _ A5.out).mono ?_); rintro e w' ⟨rfl, ⟨nd, rfl⟩⟩; (try first | exact ⟨rfl, _, World.drewN_drewN _ _ _⟩ | exact ⟨rfl, _, Eq.trans (World.drewN_drewN _ _ _) (congrArg (World.drewN _) (Nat.add_assoc _ _ _))⟩))))
      go_roundg k1
      case measure => have := HK1.out; omega
      case rel => exact ⟨(x5_1), (wrap64 (x6_1 + 1)), (by first | rfl | (simp; done) | (simp [*]; done)), (by first | rfl | (simp; done) | (simp [*]; done)), H', ⟨by have := HK1.out; omega⟩, by repeat (first | exact Drawn0.refl _ | apply Drawn0.step)⟩
    ·rw [if_neg c4] at H
     exact absurd H (by simp)
   ·rw [if_neg c3] at H
    have c3b0 : decide (x6_1 < (l0.length : Int)) = false := decide_eq_false c3
    clear c3
    obtain rfl := Option.some.inj H
    go_wp2
    repeat (go_quiet (fail); try go_wp2)
    go_ret
    exact ⟨by first | rfl | (simp; done) | (simp [*]; done), by repeat (first | exact Drawn0.refl _ | apply Drawn0.step)⟩
end Go.Proofs.YtkffhgiiejbnaaaGreat.Rf
namespace Go.Proofs.YtkffhgiiejbnaaaGreat.Rf
open Go.RowKit YtkffhgiiejbnaaaGreatW.PrintWords YtkffhgiiejbnaaaGreatW.PrintLast YtkffhgiiejbnaaaGreatW.PrintMore
attribute [local go_sem] max2_int min2_int max_two min_two max_three min_three max_four min_four
def ligatureref09_Parse.l0 : Nat → List (S93) → ByteArray → List Int → Option (List Int)
 | 0, _, _, _ => none
 | k + 1, x0, x1, x5 => if (x1.size : Int) > 0 then ((ligatureref09_At.f k x0 x1).bind fun t296 => (if t296 = 0 then (if 0 < (x1.size : Int) then (if x5.length < 17592186044416 then (if 1 ≤ (x1.size : Int) then (ligatureref09_Parse.l0 k x0 (x1.extract 1 x1.size) (x5 ++ [wrap64 (bt x1 0)])) else (none)) else (none)) else (none)) else (if x5.length < 17592186044416 then (if 0 ≤ (wrap64 ((-1) - t296)) then (if (wrap64 ((-1) - t296)) < (x0.length : Int) then (if 0 ≤ (((rd_T93 x0 (wrap64 ((-1) - t296))).f1).size : Int) then (if (((rd_T93 x0 (wrap64 ((-1) - t296))).f1).size : Int) ≤ (x1.size : Int) then (ligatureref09_Parse.l0 k x0 (x1.extract ((((rd_T93 x0 (wrap64 ((-1) - t296))).f1).size : Int) : Int).toNat x1.size) (x5 ++ [t296])) else (none)) else (none)) else (none)) else (none)) else (none)))) else (some x5)
def ligatureref09_Parse.f (k : Nat) (l0 : List (S93)) (a1 : ByteArray) : Option (List Int) := ligatureref09_Parse.l0 k l0 a1 ([] : List Int)
theorem ligatureref09_Parse.calls (k : Nat) (A0 : Option Addr) (c0 : Nat) (l0 : List (S93)) (a1 : ByteArray) (r : List Int) (w : World) (hr0 : Kd.C k93 w A0 l0.length l0) (hc0 : l0.length ≤ c0) (h : ligatureref09_Parse.f k l0 a1 = some r) :
  Calls Tryz.prog 16 #[.slice A0 l0.length c0, .string a1] w fun e w' => ∃ v0_ : Value, e = .returned (v0_) ∧ Kd.R (Kd.int .i64) 3 w' w.heap.size (fun _ => True) v0_ r ∧ Below w.heap.size w w' := by
 have HR0 := Aside0.mk hr0
 have HC0 := Aside0.mk hc0
 clear hr0 hc0
 have HB := Aside0.mk (Below.refl w.heap.size w)
 have H : (ligatureref09_Parse.l0 k l0 a1 ([] : List Int)) = some r := h
 clear h
 have H' := Aside0.mk H
 clear H
 go_enter Tryz.func16, Tryz.ntmps16
 go_wp2
 go_loopg [1, 5] k (fun kq v1 v5 w' => ∃ (x1_1 : ByteArray) (x5_1 : List Int), v1 = .string x1_1 ∧ Aside0 (ligatureref09_Parse.l0 kq l0 x1_1 x5_1 = some r) ∧ Aside0 (kq ≤ k) ∧ Aside0 (Kd.R (Kd.int .i64) 3 w' w.heap.size (fun _ => True) v5 x5_1) ∧ Aside0 (Below w.heap.size w w'))
 case atStart => exact ⟨(a1), (([] : List Int)), (by first | rfl | (simp; done) | (simp [*]; done)), H', ⟨Nat.le_refl _⟩, ⟨by first | exact Kd.R_nil _ _ _ _ _ | exact Kd.N_nil _ _ _ _ _ | exact Kd.V_nil _ _ _ _ _ | exact Kd.Q_nil _ _ _ _ _ | exact Kd.S_nil _ _ _ _ _⟩, ⟨by repeat (first | (with_reducible first | exact HB.out | apply below_alloc | apply pw_below_drewN | apply below_drew1) | exact HB.out)⟩⟩
 case round =>
  clear H'
  try clear c1
  try clear p2
  obtain ⟨x1_1, x5_1, rfl, HA, HK1, HO_5, HB⟩ := hrel
  cases gk with
  | zero => exact absurd HA.out (by simp [ligatureref09_Parse.l0])
  | succ k1 =>
   have H := HA.out
   clear HA
   simp only [ligatureref09_Parse.l0] at H
   by_cases c3 : (x1_1.size : Int) > 0
   ·rw [if_pos c3] at H
    have c3b0 : decide (0 < (x1_1.size : Int)) = true := decide_eq_true c3
    have c3b1 : decide (0 < x1_1.size) = true := decide_eq_true (by omega)
    clear c3
    replace H := Option.bind_eq_some_iff.mp H
    obtain ⟨t296, A40, H⟩ := H
    replace H : (if t296 = 0 then (if 0 < (x1_1.size : Int) then (if x5_1.length < 17592186044416 then (if 1 ≤ (x1_1.size : Int) then (ligatureref09_Parse.l0 k1 l0 (x1_1.extract 1 x1_1.size) (x5_1 ++ [wrap64 (bt x1_1 0)])) else (none)) else (none)) else (none)) else (if x5_1.length < 17592186044416 then (if 0 ≤ (wrap64 ((-1) - t296)) then (if (wrap64 ((-1) - t296)) < (l0.length : Int) then (if 0 ≤ (((rd_T93 l0 (wrap64 ((-1) - t296))).f1).size : Int) then (if (((rd_T93 l0 (wrap64 ((-1) - t296))).f1).size : Int) ≤ (x1_1.size : Int) then (ligatureref09_Parse.l0 k1 l0 (x1_1.extract ((((rd_T93 l0 (wrap64 ((-1) - t296))).f1).size : Int) : Int).toNat x1_1.size) (x5_1 ++ [t296])) else (none)) else (none)) else (none)) else (none)) else (none))) = some r := H
    have A4 := Aside0.mk A40
    clear A40
    by_cases c5 : t296 = 0
    ·rw [if_pos c5] at H
     have c5b0 : (t296 == 0) = true := beq_iff_eq.mpr c5
     have c5b1 : (t296 != 0) = false := bne_eq_false_iff_eq.mpr c5
     clear c5
     by_cases c6 : 0 < (x1_1.size : Int)
     ·rw [if_pos c6] at H
      have c6b0 : decide (0 < (x1_1.size : Int)) = true := decide_eq_true c6
      have c6b1 : decide (0 < x1_1.size) = true := decide_eq_true (by omega)
      clear c6
      by_cases c8 : x5_1.length < 17592186044416
      ·rw [if_pos c8] at H
       have LMc8 := Aside0.mk c8
       clear c8
       obtain ⟨y297, hy297⟩ : ∃ y_ : List Int, y_ = (x5_1 ++ [wrap64 (bt x1_1 0)]) := ⟨_, rfl⟩
       replace H : (if 1 ≤ (x1_1.size : Int) then (ligatureref09_Parse.l0 k1 l0 (x1_1.extract 1 x1_1.size) y297) else (none)) = some r := by first | (rw [hy297]; with_reducible exact H) | (have H2_ := (Option.bind_some _ _).symm.trans H; rw [hy297]; with_reducible exact H2_) | (have H2_ := (Option.bind_some _ _).symm.trans H; with_reducible exact H2_) | with_reducible exact H | (rw [hy297]; exact H) | exact H
       have Ny297 := Aside0.mk hy297
       clear hy297
       by_cases c9 : 1 ≤ (x1_1.size : Int)
       ·rw [if_pos c9] at H
        have c9b0 := eq_true c9
        have c9b1 : decide (1 ≤ (x1_1.size : Int)) = true := decide_eq_true c9
        clear c9
        have H' := Aside0.mk H
        clear H
        go_wp2_with (first | ((with_reducible refine gate_callee (f := 53) rfl ?_); refine goesL_ (some 12) rfl rfl Tryz.func53 (by kernel_rfl) rfl #[.slice A0 l0.length c0, .string x1_1] rfl (by (try simp only [List.map_toArray, List.map_cons, List.map_nil]); first | done | rfl | (simp only [List.length_drop, List.length_take]; rfl)) ?_; (with_reducible refine (ligatureref09_At.calls k1 _ _ l0 x1_1 t296 _ ?side1 ?side2 A4.out).mono ?_); (case side1 => repeat (first | exact (Kd.C_below HR0.out HB.out) | (with_reducible refine Kd.C_alloc ?_ _) | (with_reducible refine Kd.C_drewN ?_ _) | (with_reducible refine Kd.C_drew ?_))); (case side2 => exact HC0.out); rintro e w' ⟨rfl, ⟨nd, rfl⟩⟩; refine ⟨_, rfl, ?_⟩; have p7 : 0 ≤ (0 : Int) := (by omega); have q7 : 0 < x1_1.size := (by have : (0 : Int) < (x1_1.size : Int) := of_decide_eq_true (by first | (with_reducible assumption) | assumption); omega); have hx7 : ∀ h : 0 < x1_1.size, ((x1_1[0]'h).toNat : Int) = bt x1_1 0 := bt_at x1_1 0; clear p7; have qi7 : (0 < (x1_1.size : Int)) = True := eq_true (of_decide_eq_true (by first | (with_reducible assumption) | assumption)); replace q7 := eq_true q7) | ((with_reducible refine gate_builtin (b := .append) (xs := #[.tmp 15, .tmp 19]) rfl ?_); at_builtin; refine Kd.R_append (Kd.int .i64) (w0 := w) w.heap.size rfl (.tmp 15) (.tmp 19) 41 3 (.int .i64 0) 8 rfl Tryz.underlying41 info3 rfl (by decide) (by omega) u5 x5_1 (wrap64 (bt x1_1 0)) [.int .i64 (wrap64 (bt x1_1 0))] (fun _ => True) (fun _ => False) rfl rfl ?aP (fun _ hk => hk.elim) ?aF ?aO ?aB ?aS ?aL ?_; (case aP => exact rfl); (case aB => exact (by repeat (first | (with_reducible first | exact HB.out | apply below_alloc | apply pw_below_drewN | apply below_drew1) | exact HB.out))); (case aF => exact (fun _ _ => trivial)); (case aO => exact (by (with_reducible repeat (first | apply Kd.R_alloc | apply Kd.R_drewN | apply Kd.R_drew)); exact HO_5.out)); (case aS => exact (below_size (by repeat (first | (with_reducible first | exact HB.out | apply below_alloc | apply pw_below_drewN | apply below_drew1) | exact HB.out)))); (case aL => have := LMc8.out; omega); intro v298 w10 ho hb hg hat; rw [← Ny297.out] at ho; have n0_ := Aside0.mk (hb); have n1_ := Aside0.mk (ho); clear HB; clear HO_5; have HB := n0_; have HO299 := n1_; clear n0_ n1_; clear ho hb hg hat))
        go_roundg k1
        case measure => have := HK1.out; omega
        case rel => exact ⟨(x1_1.extract 1 x1_1.size), (y297), (by first | rfl | (simp; done) | (simp [*]; done)), H', ⟨by have := HK1.out; omega⟩, ⟨by (with_reducible repeat (first | apply Kd.R_alloc | apply Kd.R_drewN | apply Kd.R_drew)); exact HO299.out⟩, ⟨by repeat (first | (with_reducible first | exact HB.out | apply below_alloc | apply pw_below_drewN | apply below_drew1) | exact HB.out)⟩⟩
       ·rw [if_neg c9] at H
        exact absurd H (by simp)
      ·rw [if_neg c8] at H
       exact absurd H (by simp)
     ·rw [if_neg c6] at H
      exact absurd H (by simp)
    ·rw [if_neg c5] at H
     have c5b0 : (t296 == 0) = false := beq_eq_false_iff_ne.mpr c5
     have c5b1 : (t296 != 0) = true := bne_iff_ne.mpr c5
     by_cases c11 : x5_1.length < 17592186044416
     ·rw [if_pos c11] at H
      have LMc11 := Aside0.mk c11
      clear c11
      obtain ⟨y300, hy300⟩ : ∃ y_ : List Int, y_ = (x5_1 ++ [t296]) := ⟨_, rfl⟩
      replace H : (if 0 ≤ (wrap64 ((-1) - t296)) then (if (wrap64 ((-1) - t296)) < (l0.length : Int) then (if 0 ≤ (((rd_T93 l0 (wrap64 ((-1) - t296))).f1).size : Int) then (if (((rd_T93 l0 (wrap64 ((-1) - t296))).f1).size : Int) ≤ (x1_1.size : Int) then (ligatureref09_Parse.l0 k1 l0 (x1_1.extract ((((rd_T93 l0 (wrap64 ((-1) - t296))).f1).size : Int) : Int).toNat x1_1.size) y300) else (none)) else (none)) else (none)) else (none)) = some r := by first | (rw [hy300]; with_reducible exact H) | (have H2_ := (Option.bind_some _ _).symm.trans H; rw [hy300]; with_reducible exact H2_) | (have H2_ := (Option.bind_some _ _).symm.trans H; with_reducible exact H2_) | with_reducible exact H | (rw [hy300]; exact H) | exact H
      have Ny300 := Aside0.mk hy300
      clear hy300
      obtain ⟨ji12, hji12⟩ : ∃ j_ : Int, (wrap64 ((-1) - t296)) = j_ := ⟨_, rfl⟩
      replace H : (if 0 ≤ (ji12) then (if (ji12) < (l0.length : Int) then (if 0 ≤ (((rd_T93 l0 (ji12)).f1).size : Int) then (if (((rd_T93 l0 (ji12)).f1).size : Int) ≤ (x1_1.size : Int) then (ligatureref09_Parse.l0 k1 l0 (x1_1.extract ((((rd_T93 l0 (ji12)).f1).size : Int) : Int).toNat x1_1.size) y300) else (none)) else (none)) else (none)) else (none)) = some r := by first | (rw [hji12] at H; exact H) | (simp only [hji12] at H ⊢; exact H)
      (try rw [hji12] at A4)
      have hji12w : (IntKind.i64.wrap ((-1) - t296)) = ji12 := (i64_w _).trans hji12
      by_cases c13 : 0 ≤ (ji12)
      ·rw [if_pos c13] at H
       have c13b0 : decide (0 ≤ (ji12)) = true := decide_eq_true c13
       clear c13
       by_cases c14 : (ji12) < (l0.length : Int)
       ·rw [if_pos c14] at H
        have c14b0 : decide ((ji12) < (l0.length : Int)) = true := decide_eq_true c14
        clear c14
        by_cases c15 : 0 ≤ (((rd_T93 l0 (ji12)).f1).size : Int)
        ·rw [if_pos c15] at H
         have c15b0 := eq_true c15
         have c15b1 : decide (0 ≤ (((rd_T93 l0 (ji12)).f1).size : Int)) = true := decide_eq_true c15
         clear c15
         by_cases c16 : (((rd_T93 l0 (ji12)).f1).size : Int) ≤ (x1_1.size : Int)
         ·rw [if_pos c16] at H
          have c16b0 := eq_true c16
          have c16b1 : decide ((((rd_T93 l0 (ji12)).f1).size : Int) ≤ (x1_1.size : Int)) = true := decide_eq_true c16
          clear c16
          have H' := Aside0.mk H
          clear H
          go_wp2_with (first | ((with_reducible refine gate_callee (f := 53) rfl ?_); refine goesL_ (some 12) rfl rfl Tryz.func53 (by kernel_rfl) rfl #[.slice A0 l0.length c0, .string x1_1] rfl (by (try simp only [List.map_toArray, List.map_cons, List.map_nil]); first | done | rfl | (simp only [List.length_drop, List.length_take]; rfl)) ?_; (with_reducible refine (ligatureref09_At.calls k1 _ _ l0 x1_1 t296 _ ?side1 ?side2 A4.out).mono ?_); (case side1 => repeat (first | exact (Kd.C_below HR0.out HB.out) | (with_reducible refine Kd.C_alloc ?_ _) | (with_reducible refine Kd.C_drewN ?_ _) | (with_reducible refine Kd.C_drew ?_))); (case side2 => exact HC0.out); rintro e w' ⟨rfl, ⟨nd, rfl⟩⟩; refine ⟨_, rfl, ?_⟩) | ((with_reducible refine gate_builtin (b := .append) (xs := #[.tmp 23, .tmp 25]) rfl ?_); at_builtin; refine Kd.R_append (Kd.int .i64) (w0 := w) w.heap.size rfl (.tmp 23) (.tmp 25) 41 3 (.int .i64 0) 8 rfl Tryz.underlying41 info3 rfl (by decide) (by omega) u5 x5_1 t296 [.int .i64 t296] (fun _ => True) (fun _ => False) rfl rfl ?aP (fun _ hk => hk.elim) ?aF ?aO ?aB ?aS ?aL ?_; (case aP => exact rfl); (case aB => exact (by repeat (first | (with_reducible first | exact HB.out | apply below_alloc | apply pw_below_drewN | apply below_drew1) | exact HB.out))); (case aF => exact (fun _ _ => trivial)); (case aO => exact (by (with_reducible repeat (first | apply Kd.R_alloc | apply Kd.R_drewN | apply Kd.R_drew)); exact HO_5.out)); (case aS => exact (below_size (by repeat (first | (with_reducible first | exact HB.out | apply below_alloc | apply pw_below_drewN | apply below_drew1) | exact HB.out)))); (case aL => have := LMc11.out; omega); intro v301 w17 ho hb hg hat; rw [← Ny300.out] at ho; have n0_ := Aside0.mk (hb); have n1_ := Aside0.mk (ho); clear HB; clear HO_5; have HB := n0_; have HO302 := n1_; clear n0_ n1_; clear ho hb hg hat; have p303 : 0 ≤ ((ji12) : Int) := of_decide_eq_true (by first | (with_reducible assumption) | assumption); have q303 : (ji12) < (l0.length : Int) := of_decide_eq_true (by first | (with_reducible assumption) | assumption); obtain ⟨ad303, e303, hx303_0, hx303_1⟩ := at_T93 HR0.out (ji12) p303 q303; cases e303; replace hx303_0 := (HB.out.cell (World.block_lt_of_cell? w _ hx303_0)).trans hx303_0; replace hx303_1 := (HB.out.cell (World.block_lt_of_cell? w _ hx303_1)).trans hx303_1; replace p303 := eq_true p303; replace q303 := eq_true q303))
          go_roundg k1
          case measure => have := HK1.out; omega
          case rel => exact ⟨(x1_1.extract ((((rd_T93 l0 (ji12)).f1).size : Int) : Int).toNat x1_1.size), (y300), (by first | rfl | (simp; done) | (simp only [← hji12] <;> (first | rfl | simp)) | (simp [*]; done)), H', ⟨by have := HK1.out; omega⟩, ⟨by (with_reducible repeat (first | apply Kd.R_alloc | apply Kd.R_drewN | apply Kd.R_drew)); exact HO302.out⟩, ⟨by repeat (first | (with_reducible first | exact HB.out | apply below_alloc | apply pw_below_drewN | apply below_drew1) | exact HB.out)⟩⟩
         ·rw [if_neg c16] at H
          exact absurd H (by simp)
        ·rw [if_neg c15] at H
         exact absurd H (by simp)
       ·rw [if_neg c14] at H
        exact absurd H (by simp)
      ·rw [if_neg c13] at H
       exact absurd H (by simp)
     ·rw [if_neg c11] at H
      exact absurd H (by simp)
   ·rw [if_neg c3] at H
    have c3b0 : decide (0 < (x1_1.size : Int)) = false := decide_eq_false c3
    have c3b1 : decide (0 < x1_1.size) = false := decide_eq_false (by omega)
    clear c3
    obtain rfl := Option.some.inj H
    go_wp2
    go_ret
    exact ⟨_, by first | rfl | (simp [errW_none, errW_some] <;> rfl) | (simp [*, errW_none, errW_some] <;> rfl), by (with_reducible repeat (first | apply Kd.R_alloc | apply Kd.R_drewN | apply Kd.R_drew)); exact HO_5.out, by repeat (first | (with_reducible first | exact HB.out | apply below_alloc | apply pw_below_drewN | apply below_drew1) | exact HB.out)⟩
end Go.Proofs.YtkffhgiiejbnaaaGreat.Rf
namespace Go.Proofs.YtkffhgiiejbnaaaGreat.Rf
open Go.RowKit YtkffhgiiejbnaaaGreatW.PrintWords YtkffhgiiejbnaaaGreatW.PrintLast YtkffhgiiejbnaaaGreatW.PrintMore
attribute [local go_sem] max2_int min2_int max_two min_two max_three min_three max_four min_four
def ligatureref09_Great.l0 : Nat → List (S93) → Int → Option (Bool)
 | 0, _, _ => none
 | k + 1, x0, x3 => if x3 < (x0.length : Int) then (if 0 ≤ x3 then (if (((rd_T93 x0 x3).f1).size : Int) > 100 then (some true) else (ligatureref09_Great.l0 k x0 (wrap64 (x3 + 1)))) else (none)) else (some (decide ((x0.length : Int) > 40)))
def ligatureref09_Great.f (k : Nat) (l0 : List (S93)) : Option (Bool) := ligatureref09_Great.l0 k l0 0
theorem ligatureref09_Great.calls (k : Nat) (A0 : Option Addr) (c0 : Nat) (l0 : List (S93)) (r : Bool) (w : World) (hr0 : Kd.C k93 w A0 l0.length l0) (hc0 : l0.length ≤ c0) (h : ligatureref09_Great.f k l0 = some r) :
  Calls Tryz.prog 84 #[.slice A0 l0.length c0] w fun e w' => e = .returned (.bool r) ∧ Drawn0 w w' := by
 have HR0 := Aside0.mk hr0
 have HC0 := Aside0.mk hc0
 clear hr0 hc0
 have H : (ligatureref09_Great.l0 k l0 0) = some r := h
 clear h
 have H' := Aside0.mk H
 clear H
 go_enter Tryz.func84, Tryz.ntmps84
 go_wp2
 go_loopg [3] k (fun kq v3 w' => ∃ (x3_1 : Int), v3 = .int .i64 x3_1 ∧ Aside0 (ligatureref09_Great.l0 kq l0 x3_1 = some r) ∧ Aside0 (kq ≤ k) ∧ Drawn0 w w')
 case atStart => exact ⟨(0), (by first | rfl | (simp; done) | (simp [*]; done)), H', ⟨Nat.le_refl _⟩, by repeat (first | exact Drawn0.refl _ | apply Drawn0.step)⟩
 case round =>
  clear H'
  obtain ⟨x3_1, rfl, HA, HK1, ⟨m1, rfl⟩⟩ := hrel
  cases gk with
  | zero => exact absurd HA.out (by simp [ligatureref09_Great.l0])
  | succ k1 =>
   have H := HA.out
   clear HA
   simp only [ligatureref09_Great.l0] at H
   by_cases c2 : x3_1 < (l0.length : Int)
   ·rw [if_pos c2] at H
    have c2b0 : decide (x3_1 < (l0.length : Int)) = true := decide_eq_true c2
    clear c2
    by_cases c3 : 0 ≤ x3_1
    ·rw [if_pos c3] at H
     have c3b0 : decide (0 ≤ x3_1) = true := decide_eq_true c3
     clear c3
     by_cases c4 : (((rd_T93 l0 x3_1).f1).size : Int) > 100
     ·rw [if_pos c4] at H
      have c4b0 : decide (100 < (((rd_T93 l0 x3_1).f1).size : Int)) = true := decide_eq_true c4
      have c4b1 : decide (100 < ((rd_T93 l0 x3_1).f1).size) = true := decide_eq_true (by omega)
      clear c4
      obtain rfl := Option.some.inj H
      have p101 : 0 ≤ (x3_1 : Int) := of_decide_eq_true (by first | (with_reducible assumption) | assumption)
      have q101 : x3_1 < (l0.length : Int) := of_decide_eq_true (by first | (with_reducible assumption) | assumption)
      obtain ⟨ad101, e101, hx101_0, hx101_1⟩ := at_T93 HR0.out x3_1 p101 q101
      cases e101
      replace p101 := eq_true p101
      replace q101 := eq_true q101
      go_wp2
      go_ret
      exact ⟨by first | rfl | (simp; done) | (simp [*]; done), by repeat (first | exact Drawn0.refl _ | apply Drawn0.step)⟩
     ·rw [if_neg c4] at H
      have c4b0 : decide (100 < (((rd_T93 l0 x3_1).f1).size : Int)) = false := decide_eq_false c4
      have c4b1 : decide (100 < ((rd_T93 l0 x3_1).f1).size) = false := decide_eq_false (by omega)
      clear c4
      have H' := Aside0.mk H
      clear H
      have p101 : 0 ≤ (x3_1 : Int) := of_decide_eq_true (by first | (with_reducible assumption) | assumption)
      have q101 : x3_1 < (l0.length : Int) := of_decide_eq_true (by first | (with_reducible assumption) | assumption)
      obtain ⟨ad101, e101, hx101_0, hx101_1⟩ := at_T93 HR0.out x3_1 p101 q101
      cases e101
      replace p101 := eq_true p101
      replace q101 := eq_true q101
      go_wp2
      go_roundg k1
      case measure => have := HK1.out; omega
      case rel => exact ⟨(wrap64 (x3_1 + 1)), (by first | rfl | (simp; done) | (simp [*]; done)), H', ⟨by have := HK1.out; omega⟩, by repeat (first | exact Drawn0.refl _ | apply Drawn0.step)⟩
    ·rw [if_neg c3] at H
     exact absurd H (by simp)
   ·rw [if_neg c2] at H
    have c2b0 : decide (x3_1 < (l0.length : Int)) = false := decide_eq_false c2
    clear c2
    obtain rfl := Option.some.inj H
    go_wp2
    go_ret
    exact ⟨by first | rfl | (simp; done) | (simp [*]; done), by repeat (first | exact Drawn0.refl _ | apply Drawn0.step)⟩
end Go.Proofs.YtkffhgiiejbnaaaGreat.Rf
namespace Go.Proofs.YtkffhgiiejbnaaaGreat.Rf
open Go.RowKit YtkffhgiiejbnaaaGreatW.PrintWords YtkffhgiiejbnaaaGreatW.PrintLast YtkffhgiiejbnaaaGreatW.PrintMore
attribute [local go_sem] max2_int min2_int max_two min_two max_three min_three max_four min_four
mutual
def ligatureref09_Check.l0 : Nat → List (S93) → Int → Option (Int × Int)
 | 0, _, _ => none
 | k + 1, x0, x4 => if x4 < (x0.length : Int) then (if 0 ≤ x4 then (if ((rd_T93 x0 x4).f0) < 0 then (ligatureref09_Check.j1 k x0 x4 true) else (if ((rd_T93 x0 x4).f0) > 1073741824 then (ligatureref09_Check.j1 k x0 x4 true) else (if (((rd_T93 x0 x4).f1).size : Int) < 1 then (ligatureref09_Check.j1 k x0 x4 true) else (ligatureref09_Check.j1 k x0 x4 (decide ((((rd_T93 x0 x4).f1).size : Int) > 64)))))) else (none)) else (some ((x0.length : Int), 0))
def ligatureref09_Check.j1 : Nat → List (S93) → Int → Bool → Option (Int × Int)
 | 0, _, _, _ => none
 | k + 1, x0, x4, x43 => if x43 = true then (some (x4, 1)) else (if x4 ≥ 32 then (some (x4, 3)) else (ligatureref09_Check.l1 k x0 x4 0))
def ligatureref09_Check.l1 : Nat → List (S93) → Int → Int → Option (Int × Int)
 | 0, _, _, _ => none
 | k + 1, x0, x4, x5 => if x5 < x4 then (if 0 ≤ x5 then (if x5 < (x0.length : Int) then (if 0 ≤ x4 then (if x4 < (x0.length : Int) then (if ((rd_T93 x0 x5).f0) = ((rd_T93 x0 x4).f0) then (some (x4, 10)) else (if ((rd_T93 x0 x5).f1).toList = ((rd_T93 x0 x4).f1).toList then (some (x4, 10)) else (ligatureref09_Check.l1 k x0 x4 (wrap64 (x5 + 1))))) else (none)) else (none)) else (none)) else (none)) else (ligatureref09_Check.l0 k x0 (wrap64 (x4 + 1)))
end
def ligatureref09_Check.f (k : Nat) (l0 : List (S93)) : Option (Int × Int) := ligatureref09_Check.l0 k l0 0
theorem ligatureref09_Check.calls (k : Nat) (A0 : Option Addr) (c0 : Nat) (l0 : List (S93)) (r1 : Int) (r2 : Int) (w : World) (hr0 : Kd.C k93 w A0 l0.length l0) (hc0 : l0.length ≤ c0) (h : ligatureref09_Check.f k l0 = some (r1, r2)) :
  Calls Tryz.prog 89 #[.slice A0 l0.length c0] w fun e w' => e = .returned (.tuple #[.int .i64 r1, .int .i64 r2]) ∧ Drawn0 w w' := by
 have HR0 := Aside0.mk hr0
 have HC0 := Aside0.mk hc0
 clear hr0 hc0
 have H : (ligatureref09_Check.l0 k l0 0) = some (r1, r2) := h
 clear h
 have H' := Aside0.mk H
 clear H
 go_enter Tryz.func89, Tryz.ntmps89
 go_wp2
 repeat (go_quiet (fail); try go_wp2)
 go_loopg [4] k (fun kq v4 w' => ∃ (x4_1 : Int), v4 = .int .i64 x4_1 ∧ Aside0 (ligatureref09_Check.l0 kq l0 x4_1 = some (r1, r2)) ∧ Aside0 (kq ≤ k) ∧ Drawn0 w w')
 case atStart => exact ⟨(0), (by first | rfl | (simp; done) | (simp [*]; done)), H', ⟨Nat.le_refl _⟩, by repeat (first | exact Drawn0.refl _ | apply Drawn0.step)⟩
 case round =>
  clear H'
  obtain ⟨x4_1, rfl, HA, HK1, ⟨m1, rfl⟩⟩ := hrel
  cases gk with
  | zero => exact absurd HA.out (by simp [ligatureref09_Check.l0])
  | succ k1 =>
   have H := HA.out
   clear HA
   simp only [ligatureref09_Check.l0] at H
   by_cases c2 : x4_1 < (l0.length : Int)
   ·rw [if_pos c2] at H
    have c2b0 : decide (x4_1 < (l0.length : Int)) = true := decide_eq_true c2
    clear c2
    have HC3 := Aside0.mk H
    clear H
    go_upto_region 4 with (fail)
    repeat (go_quiet (fail); go_upto_region 4 with (fail))
    go_cut [43] (fun v43 wc => ∃ (kq : Nat) (x43_2 : Bool), v43 = .bool x43_2 ∧ Aside0 (ligatureref09_Check.j1 kq l0 x4_1 x43_2 = some (r1, r2)) ∧ Aside0 (kq ≤ k1) ∧ Drawn0 w wc)
    case first =>
     have H := HC3.out
     clear HC3
     by_cases c4 : 0 ≤ x4_1
     ·rw [if_pos c4] at H
      have c4b0 : decide (0 ≤ x4_1) = true := decide_eq_true c4
      clear c4
      (first | rw [c4b0] | (simp only [i64_w, i32_w]; rw [c4b0]) | skip)
      by_cases c5 : ((rd_T93 l0 x4_1).f0) < 0
      ·rw [if_pos c5] at H
       have c5b0 : decide (((rd_T93 l0 x4_1).f0) < 0) = true := decide_eq_true c5
       clear c5
       have H' := Aside0.mk H
       clear H
       have p211 : 0 ≤ (x4_1 : Int) := of_decide_eq_true (by first | (with_reducible assumption) | assumption)
       have q211 : x4_1 < (l0.length : Int) := of_decide_eq_true (by first | (with_reducible assumption) | assumption)
       obtain ⟨ad211, e211, hx211_0, hx211_1⟩ := at_T93 HR0.out x4_1 p211 q211
       cases e211
       replace p211 := eq_true p211
       replace q211 := eq_true q211
       go_wp2
       repeat (go_quiet (fail); try go_wp2)
       go_meet
       case rel => exact ⟨_, (true), (by first | rfl | (simp; done) | (simp [*]; done)), H', ⟨by have := HK1.out; first | omega | exact Nat.le_refl _⟩, by repeat (first | exact Drawn0.refl _ | apply Drawn0.step)⟩
      ·rw [if_neg c5] at H
       have c5b0 : decide (((rd_T93 l0 x4_1).f0) < 0) = false := decide_eq_false c5
       clear c5
       by_cases c6 : ((rd_T93 l0 x4_1).f0) > 1073741824
       ·rw [if_pos c6] at H
        have c6b0 : decide (1073741824 < ((rd_T93 l0 x4_1).f0)) = true := decide_eq_true c6
        clear c6
        have H' := Aside0.mk H
        clear H
        have p211 : 0 ≤ (x4_1 : Int) := of_decide_eq_true (by first | (with_reducible assumption) | assumption)
        have q211 : x4_1 < (l0.length : Int) := of_decide_eq_true (by first | (with_reducible assumption) | assumption)
        obtain ⟨ad211, e211, hx211_0, hx211_1⟩ := at_T93 HR0.out x4_1 p211 q211
        cases e211
        replace p211 := eq_true p211
        replace q211 := eq_true q211
        have p212 : 0 ≤ (x4_1 : Int) := of_decide_eq_true (by first | (with_reducible assumption) | assumption)
        have q212 : x4_1 < (l0.length : Int) := of_decide_eq_true (by first | (with_reducible assumption) | assumption)
        obtain ⟨ad212, e212, hx212_0, hx212_1⟩ := at_T93 HR0.out x4_1 p212 q212
        obtain rfl : ad211 = ad212 := (by injection e212)
        replace p212 := eq_true p212
        replace q212 := eq_true q212
        go_wp2
        repeat (go_quiet (fail); try go_wp2)
        go_meet
        case rel => exact ⟨_, (true), (by first | rfl | (simp; done) | (simp [*]; done)), H', ⟨by have := HK1.out; first | omega | exact Nat.le_refl _⟩, by repeat (first | exact Drawn0.refl _ | apply Drawn0.step)⟩
       ·rw [if_neg c6] at H
        have c6b0 : decide (1073741824 < ((rd_T93 l0 x4_1).f0)) = false := decide_eq_false c6
        clear c6
        by_cases c7 : (((rd_T93 l0 x4_1).f1).size : Int) < 1
        ·rw [if_pos c7] at H
         have c7b0 : decide ((((rd_T93 l0 x4_1).f1).size : Int) < 1) = true := decide_eq_true c7
         have c7b1 : decide (((rd_T93 l0 x4_1).f1).size < 1) = true := decide_eq_true (by omega)
         clear c7
         have H' := Aside0.mk H
         clear H
         have p211 : 0 ≤ (x4_1 : Int) := of_decide_eq_true (by first | (with_reducible assumption) | assumption)
         have q211 : x4_1 < (l0.length : Int) := of_decide_eq_true (by first | (with_reducible assumption) | assumption)
         obtain ⟨ad211, e211, hx211_0, hx211_1⟩ := at_T93 HR0.out x4_1 p211 q211
         cases e211
         replace p211 := eq_true p211
         replace q211 := eq_true q211
         have p212 : 0 ≤ (x4_1 : Int) := of_decide_eq_true (by first | (with_reducible assumption) | assumption)
         have q212 : x4_1 < (l0.length : Int) := of_decide_eq_true (by first | (with_reducible assumption) | assumption)
         obtain ⟨ad212, e212, hx212_0, hx212_1⟩ := at_T93 HR0.out x4_1 p212 q212
         obtain rfl : ad211 = ad212 := (by injection e212)
         replace p212 := eq_true p212
         replace q212 := eq_true q212
         have p213 : 0 ≤ (x4_1 : Int) := of_decide_eq_true (by first | (with_reducible assumption) | assumption)
         have q213 : x4_1 < (l0.length : Int) := of_decide_eq_true (by first | (with_reducible assumption) | assumption)
         obtain ⟨ad213, e213, hx213_0, hx213_1⟩ := at_T93 HR0.out x4_1 p213 q213
         obtain rfl : ad211 = ad213 := (by injection e213)
         replace p213 := eq_true p213
         replace q213 := eq_true q213
         go_wp2
         repeat (go_quiet (fail); try go_wp2)
         go_meet
         case rel => exact ⟨_, (true), (by first | rfl | (simp; done) | (simp [*]; done)), H', ⟨by have := HK1.out; first | omega | exact Nat.le_refl _⟩, by repeat (first | exact Drawn0.refl _ | apply Drawn0.step)⟩
        ·rw [if_neg c7] at H
         have c7b0 : decide ((((rd_T93 l0 x4_1).f1).size : Int) < 1) = false := decide_eq_false c7
         have c7b1 : decide (((rd_T93 l0 x4_1).f1).size < 1) = false := decide_eq_false (by omega)
         clear c7
         have H' := Aside0.mk H
         clear H
         have p211 : 0 ≤ (x4_1 : Int) := of_decide_eq_true (by first | (with_reducible assumption) | assumption)
         have q211 : x4_1 < (l0.length : Int) := of_decide_eq_true (by first | (with_reducible assumption) | assumption)
         obtain ⟨ad211, e211, hx211_0, hx211_1⟩ := at_T93 HR0.out x4_1 p211 q211
         cases e211
         replace p211 := eq_true p211
         replace q211 := eq_true q211
         have p212 : 0 ≤ (x4_1 : Int) := of_decide_eq_true (by first | (with_reducible assumption) | assumption)
         have q212 : x4_1 < (l0.length : Int) := of_decide_eq_true (by first | (with_reducible assumption) | assumption)
         obtain ⟨ad212, e212, hx212_0, hx212_1⟩ := at_T93 HR0.out x4_1 p212 q212
         obtain rfl : ad211 = ad212 := (by injection e212)
         replace p212 := eq_true p212
         replace q212 := eq_true q212
         have p213 : 0 ≤ (x4_1 : Int) := of_decide_eq_true (by first | (with_reducible assumption) | assumption)
         have q213 : x4_1 < (l0.length : Int) := of_decide_eq_true (by first | (with_reducible assumption) | assumption)
         obtain ⟨ad213, e213, hx213_0, hx213_1⟩ := at_T93 HR0.out x4_1 p213 q213
         obtain rfl : ad211 = ad213 := (by injection e213)
         replace p213 := eq_true p213
         replace q213 := eq_true q213
         have p214 : 0 ≤ (x4_1 : Int) := of_decide_eq_true (by first | (with_reducible assumption) | assumption)
         have q214 : x4_1 < (l0.length : Int) := of_decide_eq_true (by first | (with_reducible assumption) | assumption)
         obtain ⟨ad214, e214, hx214_0, hx214_1⟩ := at_T93 HR0.out x4_1 p214 q214
         obtain rfl : ad211 = ad214 := (by injection e214)
         replace p214 := eq_true p214
         replace q214 := eq_true q214
         go_wp2
         repeat (go_quiet (fail); try go_wp2)
         go_meet
         case rel => exact ⟨_, (decide ((((rd_T93 l0 x4_1).f1).size : Int) > 64)), (by first | rfl | (simp; done) | (simp [*]; done)), H', ⟨by have := HK1.out; first | omega | exact Nat.le_refl _⟩, by repeat (first | exact Drawn0.refl _ | apply Drawn0.step)⟩
     ·rw [if_neg c4] at H
      exact absurd H (by simp)
    case rest =>
     clear HC3
     try clear c2
     try clear c2b0
     try clear p2
     try clear q2
     try clear hx2
     try clear c4
     try clear c4b0
     try clear c5
     try clear c5b0
     try clear c6
     try clear c6b0
     try clear c7
     try clear c7b0
     try clear c7b1
     try clear hx211_0
     try clear hx211_1
     try clear hx212_0
     try clear hx212_1
     try clear hx213_0
     try clear hx213_1
     try clear hx214_0
     try clear hx214_1
     try clear p211
     try clear p212
     try clear p213
     try clear p214
     try clear q211
     try clear q212
     try clear q213
     try clear q214
     obtain ⟨kq, x43_2, rfl, HA, HJ2, ⟨mc2, rfl⟩⟩ := hcut
     cases kq with
     | zero => exact absurd HA.out (by simp [ligatureref09_Check.j1])
     | succ kj2 =>
      have H := HA.out
      clear HA
      simp only [ligatureref09_Check.j1] at H
      by_cases c8 : x43_2 = true
      ·subst c8
       have H1 : (some (x4_1, 1)) = some (r1, r2) := by rw [if_pos rfl] at H; exact H
       clear H
       have H := H1
       clear H1
       simp only [Option.some.injEq, Prod.mk.injEq] at H
       obtain ⟨rfl, rfl⟩ := H
       go_wp2
       repeat (go_quiet (fail); try go_wp2)
       go_ret2
       exact ⟨by first | rfl | (simp; done) | (simp [*]; done), by repeat (first | exact Drawn0.refl _ | apply Drawn0.step)⟩
      ·replace c8 := Bool.eq_false_iff.mpr c8
       subst c8
       have H1 : (if x4_1 ≥ 32 then (some (x4_1, 3)) else (ligatureref09_Check.l1 kj2 l0 x4_1 0)) = some (r1, r2) := by rw [if_neg (show ¬ (false = true) by decide)] at H; exact H
       clear H
       have H := H1
       clear H1
       by_cases c9 : x4_1 ≥ 32
       ·rw [if_pos c9] at H
        have c9b0 : decide (32 ≤ x4_1) = true := decide_eq_true c9
        clear c9
        simp only [Option.some.injEq, Prod.mk.injEq] at H
        obtain ⟨rfl, rfl⟩ := H
        go_wp2
        repeat (go_quiet (fail); try go_wp2)
        go_ret2
        exact ⟨by first | rfl | (simp; done) | (simp [*]; done), by repeat (first | exact Drawn0.refl _ | apply Drawn0.step)⟩
       ·rw [if_neg c9] at H
        have c9b0 : decide (32 ≤ x4_1) = false := decide_eq_false c9
        clear c9
        have H' := Aside0.mk H
        clear H
        go_wp2
        repeat (go_quiet (fail); try go_wp2)
        go_loopg [5] kj2 (fun kq v5 w' => ∃ (x5_3 : Int), v5 = .int .i64 x5_3 ∧ Aside0 (ligatureref09_Check.l1 kq l0 x4_1 x5_3 = some (r1, r2)) ∧ Aside0 (kq ≤ kj2) ∧ Drawn0 w w')
        case atStart => exact ⟨(0), (by first | rfl | (simp; done) | (simp [*]; done)), H', ⟨Nat.le_refl _⟩, by repeat (first | exact Drawn0.refl _ | apply Drawn0.step)⟩
        case round =>
         clear H'
         try clear c2
         try clear c2b0
         try clear p2
         try clear q2
         try clear hx2
         try clear c4
         try clear c4b0
         try clear c5
         try clear c5b0
         try clear c6
         try clear c6b0
         try clear c7
         try clear c7b0
         try clear c7b1
         try clear c8
         try clear c9
         try clear c9b0
         try clear hx211_0
         try clear hx211_1
         try clear hx212_0
         try clear hx212_1
         try clear hx213_0
         try clear hx213_1
         try clear hx214_0
         try clear hx214_1
         try clear p2
         try clear p211
         try clear p212
         try clear p213
         try clear p214
         try clear q2
         try clear q211
         try clear q212
         try clear q213
         try clear q214
         obtain ⟨x5_3, rfl, HA, HK3, ⟨m3, rfl⟩⟩ := hrel
         cases gk with
         | zero => exact absurd HA.out (by simp [ligatureref09_Check.l1])
         | succ k3 =>
          have H := HA.out
          clear HA
          simp only [ligatureref09_Check.l1] at H
          by_cases c10 : x5_3 < x4_1
          ·rw [if_pos c10] at H
           have c10b0 : decide (x5_3 < x4_1) = true := decide_eq_true c10
           clear c10
           by_cases c11 : 0 ≤ x5_3
           ·rw [if_pos c11] at H
            have c11b0 : decide (0 ≤ x5_3) = true := decide_eq_true c11
            clear c11
            by_cases c12 : x5_3 < (l0.length : Int)
            ·rw [if_pos c12] at H
             have c12b0 : decide (x5_3 < (l0.length : Int)) = true := decide_eq_true c12
             clear c12
             by_cases c13 : 0 ≤ x4_1
             ·rw [if_pos c13] at H
              have c13b0 : decide (0 ≤ x4_1) = true := decide_eq_true c13
              clear c13
              by_cases c14 : x4_1 < (l0.length : Int)
              ·rw [if_pos c14] at H
               have c14b0 : decide (x4_1 < (l0.length : Int)) = true := decide_eq_true c14
               clear c14
               by_cases c15 : ((rd_T93 l0 x5_3).f0) = ((rd_T93 l0 x4_1).f0)
               ·rw [if_pos c15] at H
                have c15b0 : (((rd_T93 l0 x5_3).f0) == ((rd_T93 l0 x4_1).f0)) = true := beq_iff_eq.mpr c15
                have c15b1 : (((rd_T93 l0 x5_3).f0) != ((rd_T93 l0 x4_1).f0)) = false := bne_eq_false_iff_eq.mpr c15
                clear c15
                simp only [Option.some.injEq, Prod.mk.injEq] at H
                obtain ⟨rfl, rfl⟩ := H
                have p215 : 0 ≤ (x5_3 : Int) := of_decide_eq_true (by first | (with_reducible assumption) | assumption)
                have q215 : x5_3 < (l0.length : Int) := of_decide_eq_true (by first | (with_reducible assumption) | assumption)
                obtain ⟨ad215, e215, hx215_0, hx215_1⟩ := at_T93 HR0.out x5_3 p215 q215
                cases e215
                replace p215 := eq_true p215
                replace q215 := eq_true q215
                have p216 : 0 ≤ (x4_1 : Int) := of_decide_eq_true (by first | (with_reducible assumption) | assumption)
                have q216 : x4_1 < (l0.length : Int) := of_decide_eq_true (by first | (with_reducible assumption) | assumption)
                obtain ⟨ad216, e216, hx216_0, hx216_1⟩ := at_T93 HR0.out x4_1 p216 q216
                obtain rfl : ad215 = ad216 := (by injection e216)
                replace p216 := eq_true p216
                replace q216 := eq_true q216
                go_wp2
                repeat (go_quiet (fail); try go_wp2)
                go_ret2
                exact ⟨by first | rfl | (simp; done) | (simp [*]; done), by repeat (first | exact Drawn0.refl _ | apply Drawn0.step)⟩
               ·rw [if_neg c15] at H
                have c15b0 : (((rd_T93 l0 x5_3).f0) == ((rd_T93 l0 x4_1).f0)) = false := beq_eq_false_iff_ne.mpr c15
                have c15b1 : (((rd_T93 l0 x5_3).f0) != ((rd_T93 l0 x4_1).f0)) = true := bne_iff_ne.mpr c15
                by_cases c16 : ((rd_T93 l0 x5_3).f1).toList = ((rd_T93 l0 x4_1).f1).toList
                ·rw [if_pos c16] at H
                 have c16b0 : (((rd_T93 l0 x5_3).f1).toList == ((rd_T93 l0 x4_1).f1).toList) = true := beq_iff_eq.mpr c16
                 have c16b1 : (((rd_T93 l0 x5_3).f1).toList != ((rd_T93 l0 x4_1).f1).toList) = false := bne_eq_false_iff_eq.mpr c16
                 clear c16
                 simp only [Option.some.injEq, Prod.mk.injEq] at H
                 obtain ⟨rfl, rfl⟩ := H
                 have p215 : 0 ≤ (x5_3 : Int) := of_decide_eq_true (by first | (with_reducible assumption) | assumption)
                 have q215 : x5_3 < (l0.length : Int) := of_decide_eq_true (by first | (with_reducible assumption) | assumption)
                 obtain ⟨ad215, e215, hx215_0, hx215_1⟩ := at_T93 HR0.out x5_3 p215 q215
                 cases e215
                 replace p215 := eq_true p215
                 replace q215 := eq_true q215
                 have p216 : 0 ≤ (x4_1 : Int) := of_decide_eq_true (by first | (with_reducible assumption) | assumption)
                 have q216 : x4_1 < (l0.length : Int) := of_decide_eq_true (by first | (with_reducible assumption) | assumption)
                 obtain ⟨ad216, e216, hx216_0, hx216_1⟩ := at_T93 HR0.out x4_1 p216 q216
                 obtain rfl : ad215 = ad216 := (by injection e216)
                 replace p216 := eq_true p216
                 replace q216 := eq_true q216
                 have p217 : 0 ≤ (x5_3 : Int) := of_decide_eq_true (by first | (with_reducible assumption) | assumption)
                 have q217 : x5_3 < (l0.length : Int) := of_decide_eq_true (by first | (with_reducible assumption) | assumption)
                 obtain ⟨ad217, e217, hx217_0, hx217_1⟩ := at_T93 HR0.out x5_3 p217 q217
                 obtain rfl : ad215 = ad217 := (by injection e217)
                 replace p217 := eq_true p217
                 replace q217 := eq_true q217
                 have p218 : 0 ≤ (x4_1 : Int) := of_decide_eq_true (by first | (with_reducible assumption) | assumption)
                 have q218 : x4_1 < (l0.length : Int) := of_decide_eq_true (by first | (with_reducible assumption) | assumption)
                 obtain ⟨ad218, e218, hx218_0, hx218_1⟩ := at_T93 HR0.out x4_1 p218 q218
                 obtain rfl : ad215 = ad218 := (by injection e218)
                 replace p218 := eq_true p218
                 replace q218 := eq_true q218
                 go_wp2
                 repeat (go_quiet (fail); try go_wp2)
                 go_ret2
                 exact ⟨by first | rfl | (simp; done) | (simp [*]; done), by repeat (first | exact Drawn0.refl _ | apply Drawn0.step)⟩
                ·rw [if_neg c16] at H
                 have c16b0 : (((rd_T93 l0 x5_3).f1).toList == ((rd_T93 l0 x4_1).f1).toList) = false := beq_eq_false_iff_ne.mpr c16
                 have c16b1 : (((rd_T93 l0 x5_3).f1).toList != ((rd_T93 l0 x4_1).f1).toList) = true := bne_iff_ne.mpr c16
                 have H' := Aside0.mk H
                 clear H
                 have p215 : 0 ≤ (x5_3 : Int) := of_decide_eq_true (by first | (with_reducible assumption) | assumption)
                 have q215 : x5_3 < (l0.length : Int) := of_decide_eq_true (by first | (with_reducible assumption) | assumption)
                 obtain ⟨ad215, e215, hx215_0, hx215_1⟩ := at_T93 HR0.out x5_3 p215 q215
                 cases e215
                 replace p215 := eq_true p215
                 replace q215 := eq_true q215
                 have p216 : 0 ≤ (x4_1 : Int) := of_decide_eq_true (by first | (with_reducible assumption) | assumption)
                 have q216 : x4_1 < (l0.length : Int) := of_decide_eq_true (by first | (with_reducible assumption) | assumption)
                 obtain ⟨ad216, e216, hx216_0, hx216_1⟩ := at_T93 HR0.out x4_1 p216 q216
                 obtain rfl : ad215 = ad216 := (by injection e216)
                 replace p216 := eq_true p216
                 replace q216 := eq_true q216
                 have p217 : 0 ≤ (x5_3 : Int) := of_decide_eq_true (by first | (with_reducible assumption) | assumption)
                 have q217 : x5_3 < (l0.length : Int) := of_decide_eq_true (by first | (with_reducible assumption) | assumption)
                 obtain ⟨ad217, e217, hx217_0, hx217_1⟩ := at_T93 HR0.out x5_3 p217 q217
                 obtain rfl : ad215 = ad217 := (by injection e217)
                 replace p217 := eq_true p217
                 replace q217 := eq_true q217
                 have p218 : 0 ≤ (x4_1 : Int) := of_decide_eq_true (by first | (with_reducible assumption) | assumption)
                 have q218 : x4_1 < (l0.length : Int) := of_decide_eq_true (by first | (with_reducible assumption) | assumption)
                 obtain ⟨ad218, e218, hx218_0, hx218_1⟩ := at_T93 HR0.out x4_1 p218 q218
                 obtain rfl : ad215 = ad218 := (by injection e218)
                 replace p218 := eq_true p218
                 replace q218 := eq_true q218
                 go_wp2
                 repeat (go_quiet (fail); try go_wp2)
                 go_roundg k3
                 case measure => have := HK1.out; have := HJ2.out; have := HK3.out; omega
                 case rel => exact ⟨(wrap64 (x5_3 + 1)), (by first | rfl | (simp; done) | (simp [*]; done)), H', ⟨by have := HK1.out; have := HJ2.out; have := HK3.out; omega⟩, by repeat (first | exact Drawn0.refl _ | apply Drawn0.step)⟩
              ·rw [if_neg c14] at H
               exact absurd H (by simp)
             ·rw [if_neg c13] at H
              exact absurd H (by simp)
            ·rw [if_neg c12] at H
             exact absurd H (by simp)
           ·rw [if_neg c11] at H
            exact absurd H (by simp)
          ·rw [if_neg c10] at H
           have c10b0 : decide (x5_3 < x4_1) = false := decide_eq_false c10
           clear c10
           have H' := Aside0.mk H
           clear H
           go_wp2
           repeat (go_quiet (fail); try go_wp2)
           go_roundg k3
           case measure => have := HK1.out; have := HJ2.out; have := HK3.out; omega
           case rel => exact ⟨(wrap64 (x4_1 + 1)), (by first | rfl | (simp; done) | (simp [*]; done)), H', ⟨by have := HK1.out; have := HJ2.out; have := HK3.out; omega⟩, by repeat (first | exact Drawn0.refl _ | apply Drawn0.step)⟩
   ·rw [if_neg c2] at H
    have c2b0 : decide (x4_1 < (l0.length : Int)) = false := decide_eq_false c2
    clear c2
    simp only [Option.some.injEq, Prod.mk.injEq] at H
    obtain ⟨rfl, rfl⟩ := H
    go_wp2
    repeat (go_quiet (fail); try go_wp2)
    go_ret2
    exact ⟨by first | rfl | (simp; done) | (simp [*]; done), by repeat (first | exact Drawn0.refl _ | apply Drawn0.step)⟩
end Go.Proofs.YtkffhgiiejbnaaaGreat.Rf
namespace Go.Proofs.YtkffhgiiejbnaaaGreat.Rf
open Go.RowKit YtkffhgiiejbnaaaGreatW.PrintWords YtkffhgiiejbnaaaGreatW.PrintLast YtkffhgiiejbnaaaGreatW.PrintMore
attribute [local go_sem] max2_int min2_int max_two min_two max_three min_three max_four min_four
def mark_Bytes.l0 : Nat → ByteArray → List Int → Int → Int → Option (List Int)
 | 0, _, _, _, _ => none
 | k + 1, x0, x3, x6, x7 => if x7 < x6 then (if 0 ≤ x7 then (if x7 < (x0.size : Int) then (if x3.length < 17592186044416 then (mark_Bytes.l0 k x0 (x3 ++ [wrap64 (bt x0 x7)]) x6 (wrap64 (x7 + 1))) else (none)) else (none)) else (none)) else (some x3)
def mark_Bytes.f (k : Nat) (a0 : ByteArray) : Option (List Int) := mark_Bytes.l0 k a0 ([] : List Int) (a0.size : Int) 0
theorem mark_Bytes.calls (k : Nat) (a0 : ByteArray) (r : List Int) (w : World) (h : mark_Bytes.f k a0 = some r) :
  Calls Tryz.prog 28 #[.string a0] w fun e w' => ∃ v0_ : Value, e = .returned (v0_) ∧ Kd.R (Kd.int .i64) 3 w' w.heap.size (fun _ => True) v0_ r ∧ Below w.heap.size w w' := by
 have HB := Aside0.mk (Below.refl w.heap.size w)
 have H : (mark_Bytes.l0 k a0 ([] : List Int) (a0.size : Int) 0) = some r := h
 clear h
 have H' := Aside0.mk H
 clear H
 go_enter Tryz.func28, Tryz.ntmps28
 go_wp2
 go_loopg [3, 7] k (fun kq v3 v7 w' => ∃ (x3_1 : List Int) (x7_1 : Int), v7 = .int .i64 x7_1 ∧ Aside0 (mark_Bytes.l0 kq a0 x3_1 (a0.size : Int) x7_1 = some r) ∧ Aside0 (kq ≤ k) ∧ Aside0 (Kd.R (Kd.int .i64) 3 w' w.heap.size (fun _ => True) v3 x3_1) ∧ Aside0 (Below w.heap.size w w'))
 case atStart => exact ⟨(([] : List Int)), (0), (by first | rfl | (simp; done) | (simp [*]; done)), H', ⟨Nat.le_refl _⟩, ⟨by first | exact Kd.R_nil _ _ _ _ _ | exact Kd.N_nil _ _ _ _ _ | exact Kd.V_nil _ _ _ _ _ | exact Kd.Q_nil _ _ _ _ _ | exact Kd.S_nil _ _ _ _ _⟩, ⟨by repeat (first | (with_reducible first | exact HB.out | apply below_alloc | apply pw_below_drewN | apply below_drew1) | exact HB.out)⟩⟩
 case round =>
  clear H'
  obtain ⟨x3_1, x7_1, rfl, HA, HK1, HO_3, HB⟩ := hrel
  cases gk with
  | zero => exact absurd HA.out (by simp [mark_Bytes.l0])
  | succ k1 =>
   have H := HA.out
   clear HA
   simp only [mark_Bytes.l0] at H
   by_cases c2 : x7_1 < (a0.size : Int)
   ·rw [if_pos c2] at H
    have c2b0 : decide (x7_1 < (a0.size : Int)) = true := decide_eq_true c2
    clear c2
    by_cases c3 : 0 ≤ x7_1
    ·rw [if_pos c3] at H
     have c3b0 : decide (0 ≤ x7_1) = true := decide_eq_true c3
     clear c3
     by_cases c4 : x7_1 < (a0.size : Int)
     ·rw [if_pos c4] at H
      have c4b0 : decide (x7_1 < (a0.size : Int)) = true := decide_eq_true c4
      clear c4
      by_cases c6 : x3_1.length < 17592186044416
      ·rw [if_pos c6] at H
       have LMc6 := Aside0.mk c6
       clear c6
       obtain ⟨y115, hy115⟩ : ∃ y_ : List Int, y_ = (x3_1 ++ [wrap64 (bt a0 x7_1)]) := ⟨_, rfl⟩
       replace H : (mark_Bytes.l0 k1 a0 y115 (a0.size : Int) (wrap64 (x7_1 + 1))) = some r := by first | (rw [hy115]; with_reducible exact H) | (have H2_ := (Option.bind_some _ _).symm.trans H; rw [hy115]; with_reducible exact H2_) | (have H2_ := (Option.bind_some _ _).symm.trans H; with_reducible exact H2_) | with_reducible exact H | (rw [hy115]; exact H) | exact H
       have Ny115 := Aside0.mk hy115
       clear hy115
       have H' := Aside0.mk H
       clear H
       have p5 : 0 ≤ (x7_1 : Int) := of_decide_eq_true (by first | (with_reducible assumption) | assumption)
       have q5 : x7_1 < (a0.size : Int) := of_decide_eq_true (by first | (with_reducible assumption) | assumption)
       have hx5 := bt_at a0 x7_1
       replace p5 := eq_true p5
       replace q5 := eq_true q5
       go_wp2_with (first | ((with_reducible refine gate_builtin (b := .append) (xs := #[.tmp 10, .tmp 15]) rfl ?_); at_builtin; refine Kd.R_append (Kd.int .i64) (w0 := w) w.heap.size rfl (.tmp 10) (.tmp 15) 41 3 (.int .i64 0) 8 rfl Tryz.underlying41 info3 rfl (by decide) (by omega) u3 x3_1 (wrap64 (bt a0 x7_1)) [.int .i64 (wrap64 (bt a0 x7_1))] (fun _ => True) (fun _ => False) rfl rfl ?aP (fun _ hk => hk.elim) ?aF ?aO ?aB ?aS ?aL ?_; (case aP => exact rfl); (case aB => exact (by repeat (first | (with_reducible first | exact HB.out | apply below_alloc | apply pw_below_drewN | apply below_drew1) | exact HB.out))); (case aF => exact (fun _ _ => trivial)); (case aO => exact (by (with_reducible repeat (first | apply Kd.R_alloc | apply Kd.R_drewN | apply Kd.R_drew)); exact HO_3.out)); (case aS => exact (below_size (by repeat (first | (with_reducible first | exact HB.out | apply below_alloc | apply pw_below_drewN | apply below_drew1) | exact HB.out)))); (case aL => have := LMc6.out; omega); intro v116 w7 ho hb hg hat; rw [← Ny115.out] at ho; have n0_ := Aside0.mk (hb); have n1_ := Aside0.mk (ho); clear HB; clear HO_3; have HB := n0_; have HO117 := n1_; clear n0_ n1_; clear ho hb hg hat))
       go_roundg k1
       case measure => have := HK1.out; omega
       case rel => exact ⟨(y115), (wrap64 (x7_1 + 1)), (by first | rfl | (simp; done) | (simp [*]; done)), H', ⟨by have := HK1.out; omega⟩, ⟨by (with_reducible repeat (first | apply Kd.R_alloc | apply Kd.R_drewN | apply Kd.R_drew)); exact HO117.out⟩, ⟨by repeat (first | (with_reducible first | exact HB.out | apply below_alloc | apply pw_below_drewN | apply below_drew1) | exact HB.out)⟩⟩
      ·rw [if_neg c6] at H
       exact absurd H (by simp)
     ·rw [if_neg c4] at H
      exact absurd H (by simp)
    ·rw [if_neg c3] at H
     exact absurd H (by simp)
   ·rw [if_neg c2] at H
    have c2b0 : decide (x7_1 < (a0.size : Int)) = false := decide_eq_false c2
    clear c2
    obtain rfl := Option.some.inj H
    go_wp2
    go_ret
    exact ⟨_, by first | rfl | (simp [errW_none, errW_some] <;> rfl) | (simp [*, errW_none, errW_some] <;> rfl), by (with_reducible repeat (first | apply Kd.R_alloc | apply Kd.R_drewN | apply Kd.R_drew)); exact HO_3.out, by repeat (first | (with_reducible first | exact HB.out | apply below_alloc | apply pw_below_drewN | apply below_drew1) | exact HB.out)⟩
end Go.Proofs.YtkffhgiiejbnaaaGreat.Rf
namespace Go.Proofs.YtkffhgiiejbnaaaGreat.Rf
open Go.RowKit YtkffhgiiejbnaaaGreatW.PrintWords YtkffhgiiejbnaaaGreatW.PrintLast YtkffhgiiejbnaaaGreatW.PrintMore
attribute [local go_sem] max2_int min2_int max_two min_two max_three min_three max_four min_four
def ligatureref08_Table_Class.l0 : Nat → Int → Int → List (S165) → List (S108) → Option (Int)
 | 0, _, _, _, _ => none
 | k + 1, x1, x5, x305000, x305001 => if x5 ≥ 0 then (if 0 ≤ x5 then (if x5 < (x305000.length : Int) then (if (wrap64 (x1)) ≥ ((rd_T165 x305000 x5).f0) then (if (wrap64 (x1)) ≤ ((rd_T165 x305000 x5).f1) then (some ((rd_T165 x305000 x5).f2)) else (ligatureref08_Table_Class.l0 k x1 (wrap64 (x5 - 1)) x305000 x305001)) else (ligatureref08_Table_Class.l0 k x1 (wrap64 (x5 - 1)) x305000 x305001)) else (none)) else (none)) else (some 0)
def ligatureref08_Table_Class.f (k : Nat) (l0_0 : List (S165)) (l0_1 : List (S108)) (a1 : Int) : Option (Int) := ligatureref08_Table_Class.l0 k a1 (wrap64 ((l0_0.length : Int) - 1)) l0_0 l0_1
theorem ligatureref08_Table_Class.calls (k : Nat) (A0_0 : Option Addr) (c0_0 : Nat) (l0_0 : List (S165)) (A0_1 : Option Addr) (c0_1 : Nat) (l0_1 : List (S108)) (a1 : Int) (r : Int) (w : World) (hr0_0 : Kd.C k165 w A0_0 l0_0.length l0_0) (hc0_0 : l0_0.length ≤ c0_0) (hr0_1 : Kd.C k108 w A0_1 l0_1.length l0_1) (hc0_1 : l0_1.length ≤ c0_1) (h : ligatureref08_Table_Class.f k l0_0 l0_1 a1 = some r) :
  Calls Tryz.prog 62 #[.agg #[.slice A0_0 l0_0.length c0_0, .slice A0_1 l0_1.length c0_1], .int .u8 a1] w fun e w' => e = .returned (.int .i64 r) ∧ Below w.heap.size w w' := by
 have hu36 := Tryz.underlying36
 have HR0_0 := Aside0.mk hr0_0
 have HC0_0 := Aside0.mk hc0_0
 clear hr0_0 hc0_0
 have HR0_1 := Aside0.mk hr0_1
 have HC0_1 := Aside0.mk hc0_1
 clear hr0_1 hc0_1
 have HB := Aside0.mk (Below.refl w.heap.size w)
 have H : (ligatureref08_Table_Class.l0 k a1 (wrap64 ((l0_0.length : Int) - 1)) l0_0 l0_1) = some r := h
 clear h
 have H' := Aside0.mk H
 clear H
 go_enter Tryz.func62, Tryz.ntmps62
 go_wp2_with (first | ((with_reducible refine gate_dst (N := 2) rfl ?_); refine box_event ?hg (N := 2) ?hd (cs := #[.slice A0_0 l0_0.length c0_0, .slice A0_1 l0_1.length c0_1]) (t := 36) ?hr ?_; (case hd => rfl); (case hg => rfl); (case hr => first | (go_simp; done) | (go_simp; rfl)); intro gb304 hg w3 hbox hb; have n0_ := Aside0.mk (below_step (by repeat (first | (with_reducible first | exact HB.out | apply below_alloc | apply pw_below_drewN | apply below_drew1) | exact HB.out)) hb); have n1_ := Aside0.mk (hbox); have n2_ := Aside0.mk ((by rw [hg]; exact (below_size (by repeat (first | (with_reducible first | exact HB.out | apply below_alloc | apply pw_below_drewN | apply below_drew1) | exact HB.out))) : w.heap.size ≤ gb304)); have n3_ := Aside0.mk ((by rw [hg]; exact (below_size (by repeat (first | (with_reducible first | exact HB.out | apply below_alloc | apply pw_below_drewN | apply below_drew1) | exact HB.out))) : w.heap.size ≤ gb304)); clear HB; have HB := n0_; have BK304 := n1_; have GW304 := n2_; have GE304 := n3_; clear n0_ n1_ n2_ n3_; clear hb hbox hg; have hcz4_0 : w3.cell? ⟨gb304, 0, none⟩ = some (.slice A0_0 l0_0.length c0_0) := (blk_cell BK304.out 0).trans rfl; have hcz4_1 : w3.cell? ⟨gb304, 1, none⟩ = some (.slice A0_1 l0_1.length c0_1) := (blk_cell BK304.out 1).trans rfl; have hfz4_0 := blk_frozen BK304.out 0; have hfz4_1 := blk_frozen BK304.out 1))
 go_loopg [5] k (fun kq v5 w' => ∃ (x5_1 : Int), v5 = .int .i64 x5_1 ∧ Aside0 (ligatureref08_Table_Class.l0 kq a1 x5_1 l0_0 l0_1 = some r) ∧ Aside0 (kq ≤ k) ∧ Aside0 (w'.heap[gb304]? = some (.cells #[(.slice A0_0 l0_0.length c0_0), (.slice A0_1 l0_1.length c0_1)] 36 (0, 0))) ∧ Aside0 (Below w.heap.size w w'))
 case atStart => exact ⟨(wrap64 ((l0_0.length : Int) - 1)), (by first | rfl | (simp; done) | (simp [*]; done)), H', ⟨Nat.le_refl _⟩, ⟨by (with_reducible repeat (first | refine blk_drewN ?_ _ | refine blk_drew ?_ | refine blk_alloc ?_ _)); exact BK304.out⟩, ⟨by repeat (first | (with_reducible first | exact HB.out | apply below_alloc | apply pw_below_drewN | apply below_drew1 | refine below_set ?_ GE304.out) | exact HB.out)⟩⟩
 case round =>
  clear H'
  try clear p2
  try clear hcz4_0
  try clear hcz4_1
  try clear hfz4_0
  try clear hfz4_1
  obtain ⟨x5_1, rfl, HA, HK1, BK304, HB⟩ := hrel
  cases gk with
  | zero => exact absurd HA.out (by simp [ligatureref08_Table_Class.l0])
  | succ k1 =>
   have H := HA.out
   clear HA
   simp only [ligatureref08_Table_Class.l0] at H
   by_cases c5 : x5_1 ≥ 0
   ·rw [if_pos c5] at H
    have c5b0 : decide (0 ≤ x5_1) = true := decide_eq_true c5
    clear c5
    by_cases c6 : 0 ≤ x5_1
    ·rw [if_pos c6] at H
     have c6b0 : decide (0 ≤ x5_1) = true := decide_eq_true c6
     clear c6
     by_cases c7 : x5_1 < (l0_0.length : Int)
     ·rw [if_pos c7] at H
      have c7b0 : decide (x5_1 < (l0_0.length : Int)) = true := decide_eq_true c7
      clear c7
      by_cases c8 : (wrap64 (a1)) ≥ ((rd_T165 l0_0 x5_1).f0)
      ·rw [if_pos c8] at H
       have c8b0 : decide (((rd_T165 l0_0 x5_1).f0) ≤ (wrap64 (a1))) = true := decide_eq_true c8
       clear c8
       by_cases c9 : (wrap64 (a1)) ≤ ((rd_T165 l0_0 x5_1).f1)
       ·rw [if_pos c9] at H
        have c9b0 : decide ((wrap64 (a1)) ≤ ((rd_T165 l0_0 x5_1).f1)) = true := decide_eq_true c9
        clear c9
        obtain rfl := Option.some.inj H
        have hcz10_0 : wr.cell? ⟨gb304, 0, none⟩ = some (.slice A0_0 l0_0.length c0_0) := (blk_cell BK304.out 0).trans rfl
        have hcz10_1 : wr.cell? ⟨gb304, 1, none⟩ = some (.slice A0_1 l0_1.length c0_1) := (blk_cell BK304.out 1).trans rfl
        have hfz10_0 := blk_frozen BK304.out 0
        have hfz10_1 := blk_frozen BK304.out 1
        have p305 : 0 ≤ (x5_1 : Int) := of_decide_eq_true (by first | (with_reducible assumption) | assumption)
        have q305 : x5_1 < (l0_0.length : Int) := of_decide_eq_true (by first | (with_reducible assumption) | assumption)
        obtain ⟨ad305, e305, hx305_0, hx305_1, hx305_2⟩ := at_T165 HR0_0.out x5_1 p305 q305
        cases e305
        replace hx305_0 := (HB.out.cell (World.block_lt_of_cell? w _ hx305_0)).trans hx305_0
        replace hx305_1 := (HB.out.cell (World.block_lt_of_cell? w _ hx305_1)).trans hx305_1
        replace hx305_2 := (HB.out.cell (World.block_lt_of_cell? w _ hx305_2)).trans hx305_2
        replace p305 := eq_true p305
        replace q305 := eq_true q305
        have p306 : 0 ≤ (x5_1 : Int) := of_decide_eq_true (by first | (with_reducible assumption) | assumption)
        have q306 : x5_1 < (l0_0.length : Int) := of_decide_eq_true (by first | (with_reducible assumption) | assumption)
        obtain ⟨ad306, e306, hx306_0, hx306_1, hx306_2⟩ := at_T165 HR0_0.out x5_1 p306 q306
        obtain rfl : ad305 = ad306 := (by injection e306)
        replace hx306_0 := (HB.out.cell (World.block_lt_of_cell? w _ hx306_0)).trans hx306_0
        replace hx306_1 := (HB.out.cell (World.block_lt_of_cell? w _ hx306_1)).trans hx306_1
        replace hx306_2 := (HB.out.cell (World.block_lt_of_cell? w _ hx306_2)).trans hx306_2
        replace p306 := eq_true p306
        replace q306 := eq_true q306
        have p307 : 0 ≤ (x5_1 : Int) := of_decide_eq_true (by first | (with_reducible assumption) | assumption)
        have q307 : x5_1 < (l0_0.length : Int) := of_decide_eq_true (by first | (with_reducible assumption) | assumption)
        obtain ⟨ad307, e307, hx307_0, hx307_1, hx307_2⟩ := at_T165 HR0_0.out x5_1 p307 q307
        obtain rfl : ad305 = ad307 := (by injection e307)
        replace hx307_0 := (HB.out.cell (World.block_lt_of_cell? w _ hx307_0)).trans hx307_0
        replace hx307_1 := (HB.out.cell (World.block_lt_of_cell? w _ hx307_1)).trans hx307_1
        replace hx307_2 := (HB.out.cell (World.block_lt_of_cell? w _ hx307_2)).trans hx307_2
        replace p307 := eq_true p307
        replace q307 := eq_true q307
        go_wp2
        go_ret
        exact ⟨by first | rfl | (simp [errW_none, errW_some] <;> rfl) | (simp [*, errW_none, errW_some] <;> rfl), by repeat (first | (with_reducible first | exact HB.out | apply below_alloc | apply pw_below_drewN | apply below_drew1 | refine below_set ?_ GE304.out) | exact HB.out)⟩
       ·rw [if_neg c9] at H
        have c9b0 : decide ((wrap64 (a1)) ≤ ((rd_T165 l0_0 x5_1).f1)) = false := decide_eq_false c9
        clear c9
        have H' := Aside0.mk H
        clear H
        have hcz11_0 : wr.cell? ⟨gb304, 0, none⟩ = some (.slice A0_0 l0_0.length c0_0) := (blk_cell BK304.out 0).trans rfl
        have hcz11_1 : wr.cell? ⟨gb304, 1, none⟩ = some (.slice A0_1 l0_1.length c0_1) := (blk_cell BK304.out 1).trans rfl
        have hfz11_0 := blk_frozen BK304.out 0
        have hfz11_1 := blk_frozen BK304.out 1
        have p305 : 0 ≤ (x5_1 : Int) := of_decide_eq_true (by first | (with_reducible assumption) | assumption)
        have q305 : x5_1 < (l0_0.length : Int) := of_decide_eq_true (by first | (with_reducible assumption) | assumption)
        obtain ⟨ad305, e305, hx305_0, hx305_1, hx305_2⟩ := at_T165 HR0_0.out x5_1 p305 q305
        cases e305
        replace hx305_0 := (HB.out.cell (World.block_lt_of_cell? w _ hx305_0)).trans hx305_0
        replace hx305_1 := (HB.out.cell (World.block_lt_of_cell? w _ hx305_1)).trans hx305_1
        replace hx305_2 := (HB.out.cell (World.block_lt_of_cell? w _ hx305_2)).trans hx305_2
        replace p305 := eq_true p305
        replace q305 := eq_true q305
        have p306 : 0 ≤ (x5_1 : Int) := of_decide_eq_true (by first | (with_reducible assumption) | assumption)
        have q306 : x5_1 < (l0_0.length : Int) := of_decide_eq_true (by first | (with_reducible assumption) | assumption)
        obtain ⟨ad306, e306, hx306_0, hx306_1, hx306_2⟩ := at_T165 HR0_0.out x5_1 p306 q306
        obtain rfl : ad305 = ad306 := (by injection e306)
        replace hx306_0 := (HB.out.cell (World.block_lt_of_cell? w _ hx306_0)).trans hx306_0
        replace hx306_1 := (HB.out.cell (World.block_lt_of_cell? w _ hx306_1)).trans hx306_1
        replace hx306_2 := (HB.out.cell (World.block_lt_of_cell? w _ hx306_2)).trans hx306_2
        replace p306 := eq_true p306
        replace q306 := eq_true q306
        go_wp2
        go_roundg k1
        case measure => have := HK1.out; omega
        case rel => exact ⟨(wrap64 (x5_1 - 1)), (by first | rfl | (simp; done) | (simp [*]; done)), H', ⟨by have := HK1.out; omega⟩, ⟨by (with_reducible repeat (first | refine blk_drewN ?_ _ | refine blk_drew ?_ | refine blk_alloc ?_ _)); exact BK304.out⟩, ⟨by repeat (first | (with_reducible first | exact HB.out | apply below_alloc | apply pw_below_drewN | apply below_drew1 | refine below_set ?_ GE304.out) | exact HB.out)⟩⟩
      ·rw [if_neg c8] at H
       have c8b0 : decide (((rd_T165 l0_0 x5_1).f0) ≤ (wrap64 (a1))) = false := decide_eq_false c8
       clear c8
       have H' := Aside0.mk H
       clear H
       have hcz12_0 : wr.cell? ⟨gb304, 0, none⟩ = some (.slice A0_0 l0_0.length c0_0) := (blk_cell BK304.out 0).trans rfl
       have hcz12_1 : wr.cell? ⟨gb304, 1, none⟩ = some (.slice A0_1 l0_1.length c0_1) := (blk_cell BK304.out 1).trans rfl
       have hfz12_0 := blk_frozen BK304.out 0
       have hfz12_1 := blk_frozen BK304.out 1
       have p305 : 0 ≤ (x5_1 : Int) := of_decide_eq_true (by first | (with_reducible assumption) | assumption)
       have q305 : x5_1 < (l0_0.length : Int) := of_decide_eq_true (by first | (with_reducible assumption) | assumption)
       obtain ⟨ad305, e305, hx305_0, hx305_1, hx305_2⟩ := at_T165 HR0_0.out x5_1 p305 q305
       cases e305
       replace hx305_0 := (HB.out.cell (World.block_lt_of_cell? w _ hx305_0)).trans hx305_0
       replace hx305_1 := (HB.out.cell (World.block_lt_of_cell? w _ hx305_1)).trans hx305_1
       replace hx305_2 := (HB.out.cell (World.block_lt_of_cell? w _ hx305_2)).trans hx305_2
       replace p305 := eq_true p305
       replace q305 := eq_true q305
       go_wp2
       go_roundg k1
       case measure => have := HK1.out; omega
       case rel => exact ⟨(wrap64 (x5_1 - 1)), (by first | rfl | (simp; done) | (simp [*]; done)), H', ⟨by have := HK1.out; omega⟩, ⟨by (with_reducible repeat (first | refine blk_drewN ?_ _ | refine blk_drew ?_ | refine blk_alloc ?_ _)); exact BK304.out⟩, ⟨by repeat (first | (with_reducible first | exact HB.out | apply below_alloc | apply pw_below_drewN | apply below_drew1 | refine below_set ?_ GE304.out) | exact HB.out)⟩⟩
     ·rw [if_neg c7] at H
      exact absurd H (by simp)
    ·rw [if_neg c6] at H
     exact absurd H (by simp)
   ·rw [if_neg c5] at H
    have c5b0 : decide (0 ≤ x5_1) = false := decide_eq_false c5
    clear c5
    obtain rfl := Option.some.inj H
    go_wp2
    go_ret
    exact ⟨by first | rfl | (simp [errW_none, errW_some] <;> rfl) | (simp [*, errW_none, errW_some] <;> rfl), by repeat (first | (with_reducible first | exact HB.out | apply below_alloc | apply pw_below_drewN | apply below_drew1 | refine below_set ?_ GE304.out) | exact HB.out)⟩
end Go.Proofs.YtkffhgiiejbnaaaGreat.Rf
namespace Go.Proofs.YtkffhgiiejbnaaaGreat.Rf
open Go.RowKit YtkffhgiiejbnaaaGreatW.PrintWords YtkffhgiiejbnaaaGreatW.PrintLast YtkffhgiiejbnaaaGreatW.PrintMore
attribute [local go_sem] max2_int min2_int max_two min_two max_three min_three max_four min_four
def ligatureref08_Table_Cuts.l0 : Nat → Int → Int → Int → List (S165) → List (S108) → Option (Bool)
 | 0, _, _, _, _, _ => none
 | k + 1, x7, x8, x9, x309000, x309001 => if x9 < (x309001.length : Int) then (if 0 ≤ x9 then (if ((rd_T108 x309001 x9).f0) = x7 then (if ((rd_T108 x309001 x9).f1) = x8 then (some false) else (ligatureref08_Table_Cuts.l0 k x7 x8 (wrap64 (x9 + 1)) x309000 x309001)) else (ligatureref08_Table_Cuts.l0 k x7 x8 (wrap64 (x9 + 1)) x309000 x309001)) else (none)) else (some (x7 != x8))
def ligatureref08_Table_Cuts.f (k : Nat) (l0_0 : List (S165)) (l0_1 : List (S108)) (a1 : Int) (a2 : Int) : Option (Bool) := (ligatureref08_Table_Class.f k l0_0 l0_1 a1).bind fun t309 => ((ligatureref08_Table_Class.f k l0_0 l0_1 a2).bind fun t310 => (ligatureref08_Table_Cuts.l0 k t309 t310 0 l0_0 l0_1))
def ligatureref08_Table_Cuts.T1 : Bool × List (List Nat × List Nat) := (true, [([], []), ([], []), ([0, 1], [0, 1]), ([], []), ([], []), ([3, 4, 2], [3, 4]), ([2, 5, 0, 1, 2], [2]), ([5, 6, 0, 1, 2, 3, 4, 5, 6], [5])])
def ligatureref08_Table_Cuts.B1 : List Nat := [0, 0, 3, 0, 0, 31, 63, 127]
theorem ligatureref08_Table_Cuts.tab1 : rtab .any (opsOf Tryz.f19 1) = ligatureref08_Table_Cuts.T1 := by kernel_rfl
theorem ligatureref08_Table_Cuts.bits1 : waitsOk ligatureref08_Table_Cuts.T1.2 ligatureref08_Table_Cuts.B1 = true := by kernel_rfl
theorem ligatureref08_Table_Cuts.calls (k : Nat) (A0_0 : Option Addr) (c0_0 : Nat) (l0_0 : List (S165)) (A0_1 : Option Addr) (c0_1 : Nat) (l0_1 : List (S108)) (a1 : Int) (a2 : Int) (r : Bool) (w : World) (hr0_0 : Kd.C k165 w A0_0 l0_0.length l0_0) (hc0_0 : l0_0.length ≤ c0_0) (hr0_1 : Kd.C k108 w A0_1 l0_1.length l0_1) (hc0_1 : l0_1.length ≤ c0_1) (h : ligatureref08_Table_Cuts.f k l0_0 l0_1 a1 a2 = some r) :
  Calls Tryz.prog 19 #[.agg #[.slice A0_0 l0_0.length c0_0, .slice A0_1 l0_1.length c0_1], .int .u8 a1, .int .u8 a2] w fun e w' => e = .returned (.bool r) ∧ Below w.heap.size w w' := by
 have hu36 := Tryz.underlying36
 have HR0_0 := Aside0.mk hr0_0
 have HC0_0 := Aside0.mk hc0_0
 clear hr0_0 hc0_0
 have HR0_1 := Aside0.mk hr0_1
 have HC0_1 := Aside0.mk hc0_1
 clear hr0_1 hc0_1
 have HB := Aside0.mk (Below.refl w.heap.size w)
 have H : ((ligatureref08_Table_Class.f k l0_0 l0_1 a1).bind fun t309 => ((ligatureref08_Table_Class.f k l0_0 l0_1 a2).bind fun t310 => (ligatureref08_Table_Cuts.l0 k t309 t310 0 l0_0 l0_1))) = some r := h
 clear h
 replace H := Option.bind_eq_some_iff.mp H
 obtain ⟨t309, A40, H⟩ := H
 replace H : ((ligatureref08_Table_Class.f k l0_0 l0_1 a2).bind fun t310 => (ligatureref08_Table_Cuts.l0 k t309 t310 0 l0_0 l0_1)) = some r := H
 have A4 := Aside0.mk A40
 clear A40
 replace H := Option.bind_eq_some_iff.mp H
 obtain ⟨t310, A50, H⟩ := H
 replace H : (ligatureref08_Table_Cuts.l0 k t309 t310 0 l0_0 l0_1) = some r := H
 have A5 := Aside0.mk A50
 clear A50
 have H' := Aside0.mk H
 clear H
 go_enter Tryz.func19, Tryz.ntmps19
 try go_wp2_with (first | ((with_reducible refine gate_dst (N := 3) rfl ?_); refine box_event ?hg (N := 3) ?hd (cs := #[.slice A0_0 l0_0.length c0_0, .slice A0_1 l0_1.length c0_1]) (t := 36) ?hr ?_; (case hd => rfl); (case hg => rfl); (case hr => first | (go_simp; done) | (go_simp; rfl)); intro gb308 hg w6 hbox hb; have n0_ := Aside0.mk (below_step (by repeat (first | (with_reducible first | exact HB.out | apply below_alloc | apply pw_below_drewN | apply below_drew1) | exact HB.out)) hb); have n1_ := Aside0.mk (hbox); have n2_ := Aside0.mk ((by rw [hg]; exact (below_size (by repeat (first | (with_reducible first | exact HB.out | apply below_alloc | apply pw_below_drewN | apply below_drew1) | exact HB.out))) : w.heap.size ≤ gb308)); have n3_ := Aside0.mk ((by rw [hg]; exact (below_size (by repeat (first | (with_reducible first | exact HB.out | apply below_alloc | apply pw_below_drewN | apply below_drew1) | exact HB.out))) : w.heap.size ≤ gb308)); clear HB; have HB := n0_; have BK308 := n1_; have GW308 := n2_; have GE308 := n3_; clear n0_ n1_ n2_ n3_; clear hb hbox hg))
 have n0_ := Aside0.mk (blk_drew BK308.out)
 have n1_ := Aside0.mk (below_drew1 HB.out)
 clear BK308
 clear HB
 have BK308 := n0_
 have HB := n1_
 clear n0_ n1_
 refine start_ (n := 8) (S := fun w' => w'.cell? ⟨gb308, 0, none⟩ = some (.slice A0_0 l0_0.length c0_0) ∧ w'.cell? ⟨gb308, 1, none⟩ = some (.slice A0_1 l0_1.length c0_1)) (ds := []) #[false, false, false, false, false, false, false, false] (by kernel_rfl) rfl rfl ⟨(blk_cell BK308.out 0).trans rfl, (blk_cell BK308.out 1).trans rfl⟩ (fun hHeld => ?_); refine with_tabW ligatureref08_Table_Cuts.tab1 ligatureref08_Table_Cuts.bits1 (fun HT_ HW_ => ?_)
 generalize w6.drew = w7 at BK308 HB hHeld ⊢
 refine pure_ (i := 1) (N := some 11) (v := ?_) (a' := ?_) #[false, true, false, false, false, false, false, false] rfl rfl (any_of HT_.out (by kernel_rfl)) (fun _ _ _ h => h) (Or.inl ⟨by rfl, ?_⟩) ?_ ?_
 rotate_left
 ·intro w'
  go_simp
  with_reducible rfl
 rotate_left
 ·simp only [Act.put, List.setIfInBounds_toArray, List.set_cons_zero, List.set_cons_succ, i64_w, i32_w]
  rfl
 refine pure_ (i := 4) (N := some 14) (v := ?_) (a' := ?_) #[false, true, false, false, true, false, false, false] rfl rfl (any_of HT_.out (by kernel_rfl)) (fun _ _ _ h => h) (Or.inl ⟨by rfl, ?_⟩) ?_ ?_
 rotate_left
 ·intro w'
  go_simp
  with_reducible rfl
 rotate_left
 ·simp only [Act.put, List.setIfInBounds_toArray, List.set_cons_zero, List.set_cons_succ, i64_w, i32_w]
  rfl
 refine take_ (i := 0) (N := some 10) (v := ?_) (a' := ?_) #[true, true, false, false, true, false, false, false] rfl rfl (take_ofW HT_.out HW_.out (by kernel_rfl)) (fun _ _ _ h => h) (Or.inl ⟨by rfl, ?_⟩) hHeld ?_ ?_
 rotate_left
 ·rintro w' ⟨s0, s1⟩
  go_simp
  with_reducible rfl
 rotate_left
 ·simp only [Act.put, List.setIfInBounds_toArray, List.set_cons_zero, List.set_cons_succ, i64_w, i32_w]
  rfl
 refine take_ (i := 3) (N := some 13) (v := ?_) (a' := ?_) #[true, true, false, true, true, false, false, false] rfl rfl (take_ofW HT_.out HW_.out (by kernel_rfl)) (fun _ _ _ h => h) (Or.inl ⟨by rfl, ?_⟩) hHeld ?_ ?_
 rotate_left
 ·rintro w' ⟨s0, s1⟩
  go_simp
  with_reducible rfl
 rotate_left
 ·simp only [Act.put, List.setIfInBounds_toArray, List.set_cons_zero, List.set_cons_succ, i64_w, i32_w]
  rfl
 refine one_ (i := 2) (N := some 12) (bs 8 31) rfl rfl (one_of HT_.out (by kernel_rfl)) (by decide) (fun K hK => ?_)
 refine goes_ Tryz.func62 (by kernel_rfl) rfl #[.agg #[.slice A0_0 l0_0.length c0_0, .slice A0_1 l0_1.length c0_1], .int .u8 a1] (by rfl) rfl rfl (by (try simp only [List.map_toArray, List.map_cons, List.map_nil]); first | done | rfl | (simp only [List.length_drop, List.length_take]; rfl)) ?_
 with_reducible refine (ligatureref08_Table_Class.calls k _ _ l0_0 _ _ l0_1 a1 t309 _ ?side1 ?side2 ?side3 ?side4 A4.out).mono ?_
 (case side1 => repeat (first | exact (Kd.C_below HR0_0.out HB.out) | (with_reducible refine Kd.C_alloc ?_ _) | (with_reducible refine Kd.C_drewN ?_ _) | (with_reducible refine Kd.C_drew ?_)))
 (case side2 => exact HC0_0.out)
 (case side3 => repeat (first | exact (Kd.C_below HR0_1.out HB.out) | (with_reducible refine Kd.C_alloc ?_ _) | (with_reducible refine Kd.C_drewN ?_ _) | (with_reducible refine Kd.C_drew ?_)))
 (case side4 => exact HC0_1.out)
 rintro e w8 ⟨rfl, hb⟩
 refine ⟨_, rfl, ?_⟩
 have n0_ := Aside0.mk (blk_below (g := gb308) (o := .cells #[.slice A0_0 l0_0.length c0_0, .slice A0_1 l0_1.length c0_1] 36 (0, 0)) (by (with_reducible repeat (first | refine blk_drewN ?_ _ | refine blk_drew ?_ | refine blk_alloc ?_ _)); exact BK308.out) hb)
 have n1_ := Aside0.mk (below_step (by repeat (first | (with_reducible first | exact HB.out | apply below_alloc | apply pw_below_drewN | apply below_drew1 | refine below_set ?_ GE308.out) | exact HB.out)) hb)
 clear BK308
 clear HB
 have BK308 := n0_
 have HB := n1_
 clear n0_ n1_
 (try clear hb)
 (try clear hb2)
 (try clear hk)
 (try clear hi)
 refine hK.out _ _ ⟨(blk_cell BK308.out 0).trans rfl, (blk_cell BK308.out 1).trans rfl⟩ (fun hHeld => ?_)
 clear hK K
 refine norm_ (a' := ?_) ?_ ?_
 rotate_left
 ·show Act.put _ (some 12) _ = _
  simp only [Act.put, List.setIfInBounds_toArray, List.set_cons_zero, List.set_cons_succ, i64_w, i32_w]
  rfl
 refine one_ (i := 5) (N := some 15) (bs 8 63) rfl rfl (one_of HT_.out (by kernel_rfl)) (by decide) (fun K hK => ?_)
 refine goes_ Tryz.func62 (by kernel_rfl) rfl #[.agg #[.slice A0_0 l0_0.length c0_0, .slice A0_1 l0_1.length c0_1], .int .u8 a2] (by rfl) rfl rfl (by (try simp only [List.map_toArray, List.map_cons, List.map_nil]); first | done | rfl | (simp only [List.length_drop, List.length_take]; rfl)) ?_
 with_reducible refine (ligatureref08_Table_Class.calls k _ _ l0_0 _ _ l0_1 a2 t310 _ ?side1 ?side2 ?side3 ?side4 A5.out).mono ?_
 (case side1 => repeat (first | exact (Kd.C_below HR0_0.out HB.out) | (with_reducible refine Kd.C_alloc ?_ _) | (with_reducible refine Kd.C_drewN ?_ _) | (with_reducible refine Kd.C_drew ?_)))
 (case side2 => exact HC0_0.out)
 (case side3 => repeat (first | exact (Kd.C_below HR0_1.out HB.out) | (with_reducible refine Kd.C_alloc ?_ _) | (with_reducible refine Kd.C_drewN ?_ _) | (with_reducible refine Kd.C_drew ?_)))
 (case side4 => exact HC0_1.out)
 rintro e w9 ⟨rfl, hb⟩
 refine ⟨_, rfl, ?_⟩
 have n0_ := Aside0.mk (blk_below (g := gb308) (o := .cells #[.slice A0_0 l0_0.length c0_0, .slice A0_1 l0_1.length c0_1] 36 (0, 0)) (by (with_reducible repeat (first | refine blk_drewN ?_ _ | refine blk_drew ?_ | refine blk_alloc ?_ _)); exact BK308.out) hb)
 have n1_ := Aside0.mk (below_step (by repeat (first | (with_reducible first | exact HB.out | apply below_alloc | apply pw_below_drewN | apply below_drew1 | refine below_set ?_ GE308.out) | exact HB.out)) hb)
 clear BK308
 clear HB
 have BK308 := n0_
 have HB := n1_
 clear n0_ n1_
 (try clear hb)
 (try clear hb2)
 (try clear hk)
 (try clear hi)
 refine hK.out _ _ ⟨(blk_cell BK308.out 0).trans rfl, (blk_cell BK308.out 1).trans rfl⟩ (fun hHeld => ?_)
 clear hK K
 refine norm_ (a' := ?_) ?_ ?_
 rotate_left
 ·show Act.put _ (some 15) _ = _
  simp only [Act.put, List.setIfInBounds_toArray, List.set_cons_zero, List.set_cons_succ, i64_w, i32_w]
  rfl
 refine pure_ (i := 6) (N := some 7) (v := ?_) (a' := ?_) #[true, true, true, true, true, true, true, false] rfl rfl (any_of HT_.out (by kernel_rfl)) (fun _ _ _ h => h) (Or.inl ⟨by rfl, ?_⟩) ?_ ?_
 rotate_left
 ·intro w'
  go_simp
  with_reducible rfl
 rotate_left
 ·simp only [Act.put, List.setIfInBounds_toArray, List.set_cons_zero, List.set_cons_succ, i64_w, i32_w]
  rfl
 refine pure_ (i := 7) (N := some 8) (v := ?_) (a' := ?_) #[true, true, true, true, true, true, true, true] rfl rfl (any_of HT_.out (by kernel_rfl)) (fun _ _ _ h => h) (Or.inl ⟨by rfl, ?_⟩) ?_ ?_
 rotate_left
 ·intro w'
  go_simp
  with_reducible rfl
 rotate_left
 ·simp only [Act.put, List.setIfInBounds_toArray, List.set_cons_zero, List.set_cons_succ, i64_w, i32_w]
  rfl
 refine done_ (done_of HT_.out (by kernel_rfl)) ?_
 try go_wp2
 go_loopg [9] k (fun kq v9 w' => ∃ (x9_1 : Int), v9 = .int .i64 x9_1 ∧ Aside0 (ligatureref08_Table_Cuts.l0 kq t309 t310 x9_1 l0_0 l0_1 = some r) ∧ Aside0 (kq ≤ k) ∧ Aside0 (w'.heap[gb308]? = some (.cells #[(.slice A0_0 l0_0.length c0_0), (.slice A0_1 l0_1.length c0_1)] 36 (0, 0))) ∧ Aside0 (Below w.heap.size w w'))
 case atStart => exact ⟨(0), (by first | rfl | (simp; done) | (simp [*]; done)), H', ⟨Nat.le_refl _⟩, ⟨by (with_reducible repeat (first | refine blk_drewN ?_ _ | refine blk_drew ?_ | refine blk_alloc ?_ _)); exact BK308.out⟩, ⟨by repeat (first | (with_reducible first | exact HB.out | apply below_alloc | apply pw_below_drewN | apply below_drew1 | refine below_set ?_ GE308.out) | exact HB.out)⟩⟩
 case round =>
  clear H'
  try clear c1
  try clear p2
  try clear c6
  obtain ⟨x9_1, rfl, HA, HK1, BK308, HB⟩ := hrel
  cases gk with
  | zero => exact absurd HA.out (by simp [ligatureref08_Table_Cuts.l0])
  | succ k1 =>
   have H := HA.out
   clear HA
   simp only [ligatureref08_Table_Cuts.l0] at H
   by_cases c10 : x9_1 < (l0_1.length : Int)
   ·rw [if_pos c10] at H
    have c10b0 : decide (x9_1 < (l0_1.length : Int)) = true := decide_eq_true c10
    clear c10
    by_cases c11 : 0 ≤ x9_1
    ·rw [if_pos c11] at H
     have c11b0 : decide (0 ≤ x9_1) = true := decide_eq_true c11
     clear c11
     by_cases c12 : ((rd_T108 l0_1 x9_1).f0) = t309
     ·rw [if_pos c12] at H
      have c12b0 : (((rd_T108 l0_1 x9_1).f0) == t309) = true := beq_iff_eq.mpr c12
      have c12b1 : (((rd_T108 l0_1 x9_1).f0) != t309) = false := bne_eq_false_iff_eq.mpr c12
      clear c12
      by_cases c13 : ((rd_T108 l0_1 x9_1).f1) = t310
      ·rw [if_pos c13] at H
       have c13b0 : (((rd_T108 l0_1 x9_1).f1) == t310) = true := beq_iff_eq.mpr c13
       have c13b1 : (((rd_T108 l0_1 x9_1).f1) != t310) = false := bne_eq_false_iff_eq.mpr c13
       clear c13
       obtain rfl := Option.some.inj H
       have hcz14_0 : wr.cell? ⟨gb308, 0, none⟩ = some (.slice A0_0 l0_0.length c0_0) := (blk_cell BK308.out 0).trans rfl
       have hcz14_1 : wr.cell? ⟨gb308, 1, none⟩ = some (.slice A0_1 l0_1.length c0_1) := (blk_cell BK308.out 1).trans rfl
       have hfz14_0 := blk_frozen BK308.out 0
       have hfz14_1 := blk_frozen BK308.out 1
       have p311 : 0 ≤ (x9_1 : Int) := of_decide_eq_true (by first | (with_reducible assumption) | assumption)
       have q311 : x9_1 < (l0_1.length : Int) := of_decide_eq_true (by first | (with_reducible assumption) | assumption)
       obtain ⟨ad311, e311, hx311_0, hx311_1⟩ := at_T108 HR0_1.out x9_1 p311 q311
       cases e311
       replace hx311_0 := (HB.out.cell (World.block_lt_of_cell? w _ hx311_0)).trans hx311_0
       replace hx311_1 := (HB.out.cell (World.block_lt_of_cell? w _ hx311_1)).trans hx311_1
       replace p311 := eq_true p311
       replace q311 := eq_true q311
       have p312 : 0 ≤ (x9_1 : Int) := of_decide_eq_true (by first | (with_reducible assumption) | assumption)
       have q312 : x9_1 < (l0_1.length : Int) := of_decide_eq_true (by first | (with_reducible assumption) | assumption)
       obtain ⟨ad312, e312, hx312_0, hx312_1⟩ := at_T108 HR0_1.out x9_1 p312 q312
       obtain rfl : ad311 = ad312 := (by injection e312)
       replace hx312_0 := (HB.out.cell (World.block_lt_of_cell? w _ hx312_0)).trans hx312_0
       replace hx312_1 := (HB.out.cell (World.block_lt_of_cell? w _ hx312_1)).trans hx312_1
       replace p312 := eq_true p312
       replace q312 := eq_true q312
       go_wp2
       go_ret
       exact ⟨by first | rfl | (simp [errW_none, errW_some] <;> rfl) | (simp [*, errW_none, errW_some] <;> rfl), by repeat (first | (with_reducible first | exact HB.out | apply below_alloc | apply pw_below_drewN | apply below_drew1 | refine below_set ?_ GE308.out) | exact HB.out)⟩
      ·rw [if_neg c13] at H
       have c13b0 : (((rd_T108 l0_1 x9_1).f1) == t310) = false := beq_eq_false_iff_ne.mpr c13
       have c13b1 : (((rd_T108 l0_1 x9_1).f1) != t310) = true := bne_iff_ne.mpr c13
       have H' := Aside0.mk H
       clear H
       have hcz15_0 : wr.cell? ⟨gb308, 0, none⟩ = some (.slice A0_0 l0_0.length c0_0) := (blk_cell BK308.out 0).trans rfl
       have hcz15_1 : wr.cell? ⟨gb308, 1, none⟩ = some (.slice A0_1 l0_1.length c0_1) := (blk_cell BK308.out 1).trans rfl
       have hfz15_0 := blk_frozen BK308.out 0
       have hfz15_1 := blk_frozen BK308.out 1
       have p311 : 0 ≤ (x9_1 : Int) := of_decide_eq_true (by first | (with_reducible assumption) | assumption)
       have q311 : x9_1 < (l0_1.length : Int) := of_decide_eq_true (by first | (with_reducible assumption) | assumption)
       obtain ⟨ad311, e311, hx311_0, hx311_1⟩ := at_T108 HR0_1.out x9_1 p311 q311
       cases e311
       replace hx311_0 := (HB.out.cell (World.block_lt_of_cell? w _ hx311_0)).trans hx311_0
       replace hx311_1 := (HB.out.cell (World.block_lt_of_cell? w _ hx311_1)).trans hx311_1
       replace p311 := eq_true p311
       replace q311 := eq_true q311
       have p312 : 0 ≤ (x9_1 : Int) := of_decide_eq_true (by first | (with_reducible assumption) | assumption)
       have q312 : x9_1 < (l0_1.length : Int) := of_decide_eq_true (by first | (with_reducible assumption) | assumption)
       obtain ⟨ad312, e312, hx312_0, hx312_1⟩ := at_T108 HR0_1.out x9_1 p312 q312
       obtain rfl : ad311 = ad312 := (by injection e312)
       replace hx312_0 := (HB.out.cell (World.block_lt_of_cell? w _ hx312_0)).trans hx312_0
       replace hx312_1 := (HB.out.cell (World.block_lt_of_cell? w _ hx312_1)).trans hx312_1
       replace p312 := eq_true p312
       replace q312 := eq_true q312
       go_wp2
       go_roundg k1
       case measure => have := HK1.out; omega
       case rel => exact ⟨(wrap64 (x9_1 + 1)), (by first | rfl | (simp; done) | (simp [*]; done)), H', ⟨by have := HK1.out; omega⟩, ⟨by (with_reducible repeat (first | refine blk_drewN ?_ _ | refine blk_drew ?_ | refine blk_alloc ?_ _)); exact BK308.out⟩, ⟨by repeat (first | (with_reducible first | exact HB.out | apply below_alloc | apply pw_below_drewN | apply below_drew1 | refine below_set ?_ GE308.out) | exact HB.out)⟩⟩
     ·rw [if_neg c12] at H
      have c12b0 : (((rd_T108 l0_1 x9_1).f0) == t309) = false := beq_eq_false_iff_ne.mpr c12
      have c12b1 : (((rd_T108 l0_1 x9_1).f0) != t309) = true := bne_iff_ne.mpr c12
      have H' := Aside0.mk H
      clear H
      have hcz16_0 : wr.cell? ⟨gb308, 0, none⟩ = some (.slice A0_0 l0_0.length c0_0) := (blk_cell BK308.out 0).trans rfl
      have hcz16_1 : wr.cell? ⟨gb308, 1, none⟩ = some (.slice A0_1 l0_1.length c0_1) := (blk_cell BK308.out 1).trans rfl
      have hfz16_0 := blk_frozen BK308.out 0
      have hfz16_1 := blk_frozen BK308.out 1
      have p311 : 0 ≤ (x9_1 : Int) := of_decide_eq_true (by first | (with_reducible assumption) | assumption)
      have q311 : x9_1 < (l0_1.length : Int) := of_decide_eq_true (by first | (with_reducible assumption) | assumption)
      obtain ⟨ad311, e311, hx311_0, hx311_1⟩ := at_T108 HR0_1.out x9_1 p311 q311
      cases e311
      replace hx311_0 := (HB.out.cell (World.block_lt_of_cell? w _ hx311_0)).trans hx311_0
      replace hx311_1 := (HB.out.cell (World.block_lt_of_cell? w _ hx311_1)).trans hx311_1
      replace p311 := eq_true p311
      replace q311 := eq_true q311
      go_wp2
      go_roundg k1
      case measure => have := HK1.out; omega
      case rel => exact ⟨(wrap64 (x9_1 + 1)), (by first | rfl | (simp; done) | (simp [*]; done)), H', ⟨by have := HK1.out; omega⟩, ⟨by (with_reducible repeat (first | refine blk_drewN ?_ _ | refine blk_drew ?_ | refine blk_alloc ?_ _)); exact BK308.out⟩, ⟨by repeat (first | (with_reducible first | exact HB.out | apply below_alloc | apply pw_below_drewN | apply below_drew1 | refine below_set ?_ GE308.out) | exact HB.out)⟩⟩
    ·rw [if_neg c11] at H
     exact absurd H (by simp)
   ·rw [if_neg c10] at H
    have c10b0 : decide (x9_1 < (l0_1.length : Int)) = false := decide_eq_false c10
    clear c10
    obtain rfl := Option.some.inj H
    have hcz17_0 : wr.cell? ⟨gb308, 0, none⟩ = some (.slice A0_0 l0_0.length c0_0) := (blk_cell BK308.out 0).trans rfl
    have hcz17_1 : wr.cell? ⟨gb308, 1, none⟩ = some (.slice A0_1 l0_1.length c0_1) := (blk_cell BK308.out 1).trans rfl
    have hfz17_0 := blk_frozen BK308.out 0
    have hfz17_1 := blk_frozen BK308.out 1
    go_wp2
    go_ret
    exact ⟨by first | rfl | (simp [errW_none, errW_some] <;> rfl) | (simp [*, errW_none, errW_some] <;> rfl), by repeat (first | (with_reducible first | exact HB.out | apply below_alloc | apply pw_below_drewN | apply below_drew1 | refine below_set ?_ GE308.out) | exact HB.out)⟩
end Go.Proofs.YtkffhgiiejbnaaaGreat.Rf
namespace Go.Proofs.YtkffhgiiejbnaaaGreat.Rf
open Go.RowKit YtkffhgiiejbnaaaGreatW.PrintWords YtkffhgiiejbnaaaGreatW.PrintLast YtkffhgiiejbnaaaGreatW.PrintMore
attribute [local go_sem] max2_int min2_int max_two min_two max_three min_three max_four min_four
def ligatureref10_Great.f (k : Nat) (l0 : List Int) (l1 : List (S165)) (l2 : List (S108)) (l3 : List (S93)) : Option (Bool) := if (l0.length : Int) > 60 then (some true) else (if (l1.length : Int) > 20 then (some true) else (if (l2.length : Int) > 20 then (some true) else ((ligatureref09_Great.f k l3).bind fun t102 => (some t102))))
theorem ligatureref10_Great.calls (k : Nat) (A0 : Option Addr) (c0 : Nat) (l0 : List Int) (A1 : Option Addr) (c1 : Nat) (l1 : List (S165)) (A2 : Option Addr) (c2 : Nat) (l2 : List (S108)) (A3 : Option Addr) (c3 : Nat) (l3 : List (S93)) (r : Bool) (w : World) (hr0 : Kd.C (Kd.int .u16) w A0 l0.length l0) (hc0 : l0.length ≤ c0) (hr1 : Kd.C k165 w A1 l1.length l1) (hc1 : l1.length ≤ c1) (hr2 : Kd.C k108 w A2 l2.length l2) (hc2 : l2.length ≤ c2) (hr3 : Kd.C k93 w A3 l3.length l3) (hc3 : l3.length ≤ c3) (h : ligatureref10_Great.f k l0 l1 l2 l3 = some r) :
  Calls Tryz.prog 49 #[.slice A0 l0.length c0, .slice A1 l1.length c1, .slice A2 l2.length c2, .slice A3 l3.length c3] w fun e w' => e = .returned (.bool r) ∧ Drawn0 w w' := by
 have HR0 := Aside0.mk hr0
 have HC0 := Aside0.mk hc0
 clear hr0 hc0
 have HR1 := Aside0.mk hr1
 have HC1 := Aside0.mk hc1
 clear hr1 hc1
 have HR2 := Aside0.mk hr2
 have HC2 := Aside0.mk hc2
 clear hr2 hc2
 have HR3 := Aside0.mk hr3
 have HC3 := Aside0.mk hc3
 clear hr3 hc3
 have H : (if (l0.length : Int) > 60 then (some true) else (if (l1.length : Int) > 20 then (some true) else (if (l2.length : Int) > 20 then (some true) else ((ligatureref09_Great.f k l3).bind fun t102 => (some t102))))) = some r := h
 clear h
 by_cases c5 : (l0.length : Int) > 60
 ·rw [if_pos c5] at H
  have c5b0 : decide (60 < (l0.length : Int)) = true := decide_eq_true c5
  have c5b1 : decide (60 < l0.length) = true := decide_eq_true (by omega)
  clear c5
  obtain rfl := Option.some.inj H
  go_enter Tryz.func49, Tryz.ntmps49
  go_wp2
  go_ret
  exact ⟨by first | rfl | (simp; done) | (simp [*]; done), by repeat (first | exact Drawn0.refl _ | apply Drawn0.step)⟩
 ·rw [if_neg c5] at H
  have c5b0 : decide (60 < (l0.length : Int)) = false := decide_eq_false c5
  have c5b1 : decide (60 < l0.length) = false := decide_eq_false (by omega)
  clear c5
  by_cases c6 : (l1.length : Int) > 20
  ·rw [if_pos c6] at H
   have c6b0 : decide (20 < (l1.length : Int)) = true := decide_eq_true c6
   have c6b1 : decide (20 < l1.length) = true := decide_eq_true (by omega)
   clear c6
   obtain rfl := Option.some.inj H
   go_enter Tryz.func49, Tryz.ntmps49
   go_wp2
   go_ret
   exact ⟨by first | rfl | (simp; done) | (simp [*]; done), by repeat (first | exact Drawn0.refl _ | apply Drawn0.step)⟩
  ·rw [if_neg c6] at H
   have c6b0 : decide (20 < (l1.length : Int)) = false := decide_eq_false c6
   have c6b1 : decide (20 < l1.length) = false := decide_eq_false (by omega)
   clear c6
   by_cases c7 : (l2.length : Int) > 20
   ·rw [if_pos c7] at H
    have c7b0 : decide (20 < (l2.length : Int)) = true := decide_eq_true c7
    have c7b1 : decide (20 < l2.length) = true := decide_eq_true (by omega)
    clear c7
    obtain rfl := Option.some.inj H
    go_enter Tryz.func49, Tryz.ntmps49
    go_wp2
    go_ret
    exact ⟨by first | rfl | (simp; done) | (simp [*]; done), by repeat (first | exact Drawn0.refl _ | apply Drawn0.step)⟩
   ·rw [if_neg c7] at H
    have c7b0 : decide (20 < (l2.length : Int)) = false := decide_eq_false c7
    have c7b1 : decide (20 < l2.length) = false := decide_eq_false (by omega)
    clear c7
    replace H := Option.bind_eq_some_iff.mp H
    obtain ⟨t102, A80, H⟩ := H
    replace H : (some t102) = some r := H
    have A8 := Aside0.mk A80
    clear A80
    obtain rfl := Option.some.inj H
    go_enter Tryz.func49, Tryz.ntmps49
    go_wp2_with (first | (go_at_call 84; (with_reducible refine (ligatureref09_Great.calls k _ _ l3 t102 _ ?side1 ?side2 A8.out).mono ?_); (case side1 => repeat (first | exact HR3.out | (with_reducible refine Kd.C_alloc ?_ _) | (with_reducible refine Kd.C_drewN ?_ _) | (with_reducible refine Kd.C_drew ?_))); (case side2 => exact HC3.out); rintro e w' ⟨rfl, ⟨nd, rfl⟩⟩))
    go_ret
    exact ⟨by first | rfl | (simp; done) | (simp [*]; done), by repeat (first | exact Drawn0.refl _ | apply Drawn0.step)⟩
end Go.Proofs.YtkffhgiiejbnaaaGreat.Rf
